/-
  The greedy settlement in plain words. No program in sight.
-/
import Derived.Test.YtidjoikheklpiaaL1
namespace Go.Proofs.Ytidjoikheklpiaa
set_option maxRecDepth 20000
set_option linter.unusedSimpArgs false
set_option linter.unusedVariables false
open Go Go.Fw

def lmin (p : List Int) : Int := (p.drop 1).foldl min (p.getD 0 0)
def lmax (p : List Int) : Int := (p.drop 1).foldl max (p.getD 0 0)
theorem foldl_min : ∀ (l : List Int) (a : Int), l.foldl min a ≤ a ∧ (∀ x ∈ l, l.foldl min a ≤ x) ∧ (l.foldl min a = a ∨ l.foldl min a ∈ l)
  | [], a => by simp
  | x :: l, a => by
    obtain ⟨h1, h2, h3⟩ := foldl_min l (min a x)
    simp only [List.foldl_cons, List.mem_cons]
    refine ⟨by omega, fun y hy => ?_, ?_⟩
    · rcases hy with rfl | hy
      · omega
      · exact h2 y hy
    · rcases h3 with h3 | h3
      · rw [h3]
        by_cases h : a ≤ x
        · left; omega
        · right; left; omega
      · right; right; exact h3
theorem foldl_max : ∀ (l : List Int) (a : Int), a ≤ l.foldl max a ∧ (∀ x ∈ l, x ≤ l.foldl max a) ∧ (l.foldl max a = a ∨ l.foldl max a ∈ l)
  | [], a => by simp
  | x :: l, a => by
    obtain ⟨h1, h2, h3⟩ := foldl_max l (max a x)
    simp only [List.foldl_cons, List.mem_cons]
    refine ⟨by omega, fun y hy => ?_, ?_⟩
    · rcases hy with rfl | hy
      · omega
      · exact h2 y hy
    · rcases h3 with h3 | h3
      · rw [h3]
        by_cases h : x ≤ a
        · left; omega
        · right; left; omega
      · right; right; exact h3
theorem lmin_spec {p : List Int} (h : 0 < p.length) : (∀ x ∈ p, lmin p ≤ x) ∧ lmin p ∈ p := by
  cases p with
  | nil => simp at h
  | cons y p =>
    obtain ⟨h1, h2, h3⟩ := foldl_min p y
    refine ⟨fun x hx => ?_, ?_⟩
    · rcases List.mem_cons.1 hx with rfl | hx
      · exact h1
      · exact h2 x hx
    · rcases h3 with h3 | h3
      · exact List.mem_cons.2 (.inl h3)
      · exact List.mem_cons.2 (.inr h3)
theorem lmax_spec {p : List Int} (h : 0 < p.length) : (∀ x ∈ p, x ≤ lmax p) ∧ lmax p ∈ p := by
  cases p with
  | nil => simp at h
  | cons y p =>
    obtain ⟨h1, h2, h3⟩ := foldl_max p y
    refine ⟨fun x hx => ?_, ?_⟩
    · rcases List.mem_cons.1 hx with rfl | hx
      · exact h1
      · exact h2 x hx
    · rcases h3 with h3 | h3
      · exact List.mem_cons.2 (.inl h3)
      · exact List.mem_cons.2 (.inr h3)
theorem lmin_step {p : List Int} {k : Nat} (h0 : 0 < k) (hk : k < p.length) : lmin (p.take (k + 1)) = min (lmin (p.take k)) p[k] := by
  unfold lmin
  have e1 : (p.take (k + 1)).drop 1 = (p.take k).drop 1 ++ [p[k]] := by
    rw [List.take_succ_eq_append_getElem hk, List.drop_append_of_le_length (by simp; omega)]
  have e2 : (p.take (k + 1)).getD 0 0 = (p.take k).getD 0 0 := by
    simp [List.getD, List.getElem?_take, h0]
  rw [e1, e2, List.foldl_append]
  rfl
theorem lmax_step {p : List Int} {k : Nat} (h0 : 0 < k) (hk : k < p.length) : lmax (p.take (k + 1)) = max (lmax (p.take k)) p[k] := by
  unfold lmax
  have e1 : (p.take (k + 1)).drop 1 = (p.take k).drop 1 ++ [p[k]] := by
    rw [List.take_succ_eq_append_getElem hk, List.drop_append_of_le_length (by simp; omega)]
  have e2 : (p.take (k + 1)).getD 0 0 = (p.take k).getD 0 0 := by
    simp [List.getD, List.getElem?_take, h0]
  rw [e1, e2, List.foldl_append]
  rfl

def amin (p : List Int) : Nat := p.findIdx fun x => decide (lmin p = x)
def amax (p : List Int) : Nat := p.findIdx fun x => decide (lmax p = x)
theorem mem_getD {p : List Int} {x : Int} (h : x ∈ p) : ∃ i, i < p.length ∧ p.getD i 0 = x := by
  obtain ⟨i, hi, rfl⟩ := List.getElem_of_mem h
  exact ⟨i, hi, getD_in hi⟩
theorem getD_mem {p : List Int} {i : Nat} (h : i < p.length) : p.getD i 0 ∈ p := by rw [getD_in h]; exact List.getElem_mem h
theorem amin_spec {p : List Int} (h : 0 < p.length) : amin p < p.length ∧ p.getD (amin p) 0 = lmin p ∧ ∀ j, j < amin p → lmin p ≠ p.getD j 0 := by
  have hm := (lmin_spec h).2
  have hlt : amin p < p.length := List.findIdx_lt_length_of_exists ⟨lmin p, hm, by simp⟩
  refine ⟨hlt, ?_, fun j hj => ?_⟩
  · have := List.findIdx_getElem (w := hlt)
    rw [getD_in hlt]
    exact (of_decide_eq_true this).symm
  · have := List.not_of_lt_findIdx hj
    rw [getD_in (by omega)]
    simpa using this
theorem amax_spec {p : List Int} (h : 0 < p.length) : amax p < p.length ∧ p.getD (amax p) 0 = lmax p ∧ ∀ j, j < amax p → lmax p ≠ p.getD j 0 := by
  have hm := (lmax_spec h).2
  have hlt : amax p < p.length := List.findIdx_lt_length_of_exists ⟨lmax p, hm, by simp⟩
  refine ⟨hlt, ?_, fun j hj => ?_⟩
  · have := List.findIdx_getElem (w := hlt)
    rw [getD_in hlt]
    exact (of_decide_eq_true this).symm
  · have := List.not_of_lt_findIdx hj
    rw [getD_in (by omega)]
    simpa using this
/-- The first of the least. -/
theorem amin_uniq {p : List Int} {i : Nat} (hi : i < p.length) (h1 : ∀ j, j < p.length → p.getD i 0 ≤ p.getD j 0) (h2 : ∀ j, j < i → p.getD i 0 < p.getD j 0) : i = amin p := by
  obtain ⟨g1, g2, g3⟩ := amin_spec (p := p) (by omega)
  have e : p.getD i 0 = lmin p := by
    have a1 := (lmin_spec (p := p) (by omega)).1 _ (getD_mem hi)
    have a2 := h1 _ g1
    omega
  rcases Nat.lt_trichotomy i (amin p) with h | h | h
  · exact absurd e.symm (g3 i h)
  · exact h
  · have := h2 _ h
    omega
theorem amax_uniq {p : List Int} {i : Nat} (hi : i < p.length) (h1 : ∀ j, j < p.length → p.getD j 0 ≤ p.getD i 0) (h2 : ∀ j, j < i → p.getD j 0 < p.getD i 0) : i = amax p := by
  obtain ⟨g1, g2, g3⟩ := amax_spec (p := p) (by omega)
  have e : p.getD i 0 = lmax p := by
    have a1 := (lmax_spec (p := p) (by omega)).1 _ (getD_mem hi)
    have a2 := h1 _ g1
    omega
  rcases Nat.lt_trichotomy i (amax p) with h | h | h
  · exact absurd e.symm (g3 i h)
  · exact h
  · have := h2 _ h
    omega

/-- A transfer is applied. -/
def app (p : List Int) (c : C3) : List Int :=
  let q := p.set c.f.toNat (p.getD c.f.toNat 0 + c.a)
  q.set c.t.toNat (q.getD c.t.toNat 0 - c.a)
theorem app_length (p : List Int) (c : C3) : (app p c).length = p.length := by simp [app]
theorem app_get {n m : Int} {p : List Int} {c : C3} (h : okC n m c = true) (hn : (p.length : Int) = n) (i : Nat) : (app p c).getD i 0 = p.getD i 0 - mvC i c := by
  have hx := okC_spec h
  unfold app mvC
  have h1 : c.f.toNat < p.length := by omega
  have h2 : c.t.toNat < p.length := by omega
  have h4 : ¬ (c.f.toNat = c.t.toNat) := by omega
  simp only [getD_set, List.length_set, h1, h2, and_true]
  rw [if_neg h4]
  by_cases e1 : c.t.toNat = i
  · have : (i : Int) = c.t := by omega
    rw [if_pos e1, if_pos this, e1]
  · have : ¬ (i : Int) = c.t := by omega
    rw [if_neg e1, if_neg this]
    by_cases e2 : c.f.toNat = i
    · have h3 : (i : Int) = c.f := by omega
      rw [if_pos e2, if_pos h3, e2]
      omega
    · have h3 : ¬ (i : Int) = c.f := by omega
      rw [if_neg e2, if_neg h3]
      omega
theorem sum_set (l : List Int) (k : Nat) (v : Int) (h : k < l.length) : (l.set k v).sum = l.sum - l.getD k 0 + v := by
  induction l generalizing k with
  | nil => simp at h
  | cons x l ih =>
    cases k with
    | zero => simp [List.getD]; omega
    | succ k =>
      have := ih k (by simpa using h)
      simp only [List.set_cons_succ, List.sum_cons, this, List.getD_cons_succ]
      omega
theorem app_sum {n m : Int} {p : List Int} {c : C3} (h : okC n m c = true) (hn : (p.length : Int) = n) : (app p c).sum = p.sum := by
  have hx := okC_spec h
  unfold app
  have h1 : c.f.toNat < p.length := by omega
  have h2 : c.t.toNat < p.length := by omega
  have h4 : ¬ (c.f.toNat = c.t.toNat) := by omega
  dsimp only
  rw [sum_set _ _ _ (by simpa using h2), sum_set _ _ _ h1, getD_set, if_neg (fun h => h4 h.1)]
  omega
def nz (p : List Int) : Nat := p.countP fun x => decide (x ≠ 0)
theorem sum_pos_zero {p : List Int} (h : ∀ x ∈ p, 0 ≤ x) (hs : p.sum ≤ 0) : ∀ x ∈ p, x = 0 := by
  have key : ∀ q : List Int, (∀ x ∈ q, 0 ≤ x) → 0 ≤ q.sum := by
    intro q
    induction q with
    | nil => intro _; simp
    | cons x q ih => intro h; have := h x (by simp); have := ih fun y hy => h y (by simp [hy]); simp only [List.sum_cons]; omega
  induction p with
  | nil => intro x hx; cases hx
  | cons y p ih =>
    have hy := h y (by simp)
    have hp := key p fun z hz => h z (by simp [hz])
    simp only [List.sum_cons] at hs
    intro x hx
    rcases List.mem_cons.1 hx with rfl | hx
    · omega
    · exact ih (fun z hz => h z (by simp [hz])) (by omega) x hx
theorem sum_neg_map (p : List Int) : (p.map fun x => -x).sum = -p.sum := by
  induction p with
  | nil => rfl
  | cons x p ih => simp only [List.map_cons, List.sum_cons, ih]; omega
theorem sum_neg_zero {p : List Int} (h : ∀ x ∈ p, x ≤ 0) (hs : 0 ≤ p.sum) : ∀ x ∈ p, x = 0 := by
  intro x hx
  have := sum_pos_zero (p := p.map fun x => -x) (fun y hy => by obtain ⟨z, hz, rfl⟩ := List.mem_map.1 hy; have := h z hz; omega) (by rw [sum_neg_map]; omega) (-x) (List.mem_map.2 ⟨x, hx, rfl⟩)
  omega
/-- The least is 0: all are. -/
theorem all_zero {p : List Int} (h : posB p = true) (h0 : lmin p = 0) : ∀ x ∈ p, x = 0 := by
  obtain ⟨h1, h2, h3, h4⟩ := posB_spec h
  exact sum_pos_zero (fun x hx => by have := (lmin_spec (p := p) (by omega)).1 x hx; omega) (by omega)
theorem low_high {p : List Int} (h : posB p = true) (h0 : lmin p ≠ 0) : lmin p < 0 ∧ 0 < lmax p := by
  obtain ⟨h1, h2, h3, h4⟩ := posB_spec h
  have a := lmin_spec (p := p) (by omega)
  have b := lmax_spec (p := p) (by omega)
  constructor
  · rcases Int.lt_or_le (lmin p) 0 with h | h
    · exact h
    · exact absurd (sum_pos_zero (fun x hx => by have := a.1 x hx; omega) (by omega) _ a.2) h0
  · rcases Int.lt_or_le 0 (lmax p) with h | h
    · exact h
    · exact absurd (sum_neg_zero (fun x hx => by have := b.1 x hx; omega) (by omega) _ a.2) h0
theorem low_zero {p : List Int} (h : posB p = true) (h0 : 0 ≤ lmin p) : lmin p = 0 := by
  rcases Decidable.em (lmin p = 0) with e | e
  · exact e
  · have := low_high h e; omega

def stepC (p : List Int) : C3 := ⟨amin p, amax p, min (-lmin p) (lmax p)⟩
theorem stepC_ok {p : List Int} (h : posB p = true) (h0 : lmin p ≠ 0) : okC p.length 1125899906842624 (stepC p) = true := by
  obtain ⟨h1, h2, h3, h4⟩ := posB_spec h
  obtain ⟨l1, l2⟩ := low_high h h0
  obtain ⟨a1, a2, _⟩ := amin_spec (p := p) (by omega)
  obtain ⟨b1, b2, _⟩ := amax_spec (p := p) (by omega)
  have hne : amin p ≠ amax p := fun e => by rw [e, b2] at a2; omega
  have hb := h4 _ (lmax_spec (p := p) (by omega)).2
  unfold stepC okC
  apply decide_eq_true
  dsimp only
  omega
theorem mvC_step {p : List Int} (i : Nat) (hne : amin p ≠ amax p) : mvC i (stepC p) = if i = amax p then min (-lmin p) (lmax p) else if i = amin p then -(min (-lmin p) (lmax p)) else 0 := by
  unfold mvC stepC
  dsimp only
  by_cases e : i = amax p
  · rw [if_pos e, if_pos (by omega)]
  · rw [if_neg e, if_neg (by omega)]
    by_cases e2 : i = amin p
    · rw [if_pos e2, if_pos (by omega)]
    · rw [if_neg e2, if_neg (by omega)]
theorem step_ne {p : List Int} (h : posB p = true) (h0 : lmin p ≠ 0) : amin p ≠ amax p := by
  have := okC_spec (stepC_ok h h0)
  unfold stepC at this
  dsimp only at this
  omega
theorem step_get {p : List Int} (h : posB p = true) (h0 : lmin p ≠ 0) (i : Nat) : (app p (stepC p)).getD i 0 = p.getD i 0 - (if i = amax p then min (-lmin p) (lmax p) else if i = amin p then -(min (-lmin p) (lmax p)) else 0) := by
  rw [app_get (stepC_ok h h0) rfl, mvC_step i (step_ne h h0)]
/-- What a step leaves lies between 0 and what was. -/
theorem step_between {p : List Int} (h : posB p = true) (h0 : lmin p ≠ 0) (i : Nat) : (0 ≤ p.getD i 0 → 0 ≤ (app p (stepC p)).getD i 0 ∧ (app p (stepC p)).getD i 0 ≤ p.getD i 0) ∧ (p.getD i 0 ≤ 0 → p.getD i 0 ≤ (app p (stepC p)).getD i 0 ∧ (app p (stepC p)).getD i 0 ≤ 0) := by
  obtain ⟨h1, h2, h3, h4⟩ := posB_spec h
  obtain ⟨l1, l2⟩ := low_high h h0
  obtain ⟨a1, a2, _⟩ := amin_spec (p := p) (by omega)
  obtain ⟨b1, b2, _⟩ := amax_spec (p := p) (by omega)
  rw [step_get h h0]
  by_cases e : i = amax p
  · subst e
    rw [if_pos rfl, b2]
    omega
  · rw [if_neg e]
    by_cases e2 : i = amin p
    · subst e2
      rw [if_pos rfl, a2]
      omega
    · rw [if_neg e2]
      omega
theorem app_posB {p : List Int} (h : posB p = true) (h0 : lmin p ≠ 0) : posB (app p (stepC p)) = true := by
  obtain ⟨h1, h2, h3, h4⟩ := posB_spec h
  have hs := app_sum (stepC_ok h h0) rfl
  unfold posB
  rw [app_length, hs, decide_eq_true ⟨h1, h2, h3⟩, Bool.true_and, List.all_eq_true]
  intro x hx
  obtain ⟨i, hi, rfl⟩ := mem_getD hx
  rw [app_length] at hi
  have hb := step_between h h0 i
  have hp := h4 _ (getD_mem hi)
  apply decide_eq_true
  rcases Int.le_total 0 (p.getD i 0) with h | h
  · have := hb.1 h; omega
  · have := hb.2 h; omega
theorem nz_eq (p : List Int) : nz p = ((List.range p.length).filter fun i => decide (p.getD i 0 ≠ 0)).length := by
  unfold nz
  rw [← List.countP_eq_length_filter]
  have : p = (List.range p.length).map fun i => p.getD i 0 := by
    apply List.ext_getElem
    · simp
    · intro i h1 h2
      simp [List.getD, h1]
  conv => lhs; rw [this, List.countP_map]
  rfl
theorem filter_lt {l : List Nat} {q r : Nat → Bool} (h : ∀ i, q i = true → r i = true) {k : Nat} (hk : k ∈ l) (h1 : q k = false) (h2 : r k = true) : (l.filter q).length < (l.filter r).length := by
  have mono : ∀ m : List Nat, (m.filter q).length ≤ (m.filter r).length := by
    intro m
    induction m with
    | nil => simp
    | cons x m ih =>
      by_cases hq : q x = true
      · rw [List.filter_cons_of_pos hq, List.filter_cons_of_pos (h x hq)]
        simpa using ih
      · rw [List.filter_cons_of_neg hq]
        by_cases hr : r x = true
        · rw [List.filter_cons_of_pos hr]; simp; omega
        · rw [List.filter_cons_of_neg hr]; exact ih
  induction l with
  | nil => cases hk
  | cons x l ih =>
    rcases List.mem_cons.1 hk with rfl | hk
    · rw [List.filter_cons_of_neg (by simp [h1]), List.filter_cons_of_pos h2]
      have := mono l
      simp
      omega
    · by_cases hq : q x = true
      · rw [List.filter_cons_of_pos hq, List.filter_cons_of_pos (h x hq)]
        have := ih hk
        simpa using this
      · rw [List.filter_cons_of_neg hq]
        have := ih hk
        by_cases hr : r x = true
        · rw [List.filter_cons_of_pos hr]; simp; omega
        · rw [List.filter_cons_of_neg hr]; exact this
theorem nz_step {p : List Int} (h : posB p = true) (h0 : lmin p ≠ 0) : nz (app p (stepC p)) < nz p := by
  obtain ⟨h1, h2, h3, h4⟩ := posB_spec h
  obtain ⟨l1, l2⟩ := low_high h h0
  obtain ⟨a1, a2, _⟩ := amin_spec (p := p) (by omega)
  obtain ⟨b1, b2, _⟩ := amax_spec (p := p) (by omega)
  have hne := step_ne h h0
  rw [nz_eq, nz_eq, app_length]
  have hq : ∀ i, decide ((app p (stepC p)).getD i 0 ≠ 0) = true → decide (p.getD i 0 ≠ 0) = true := by
    intro i hi
    have hi := of_decide_eq_true hi
    have hb := step_between h h0 i
    apply decide_eq_true
    intro e
    have := hb.1 (by omega)
    omega
  by_cases hx : -lmin p ≤ lmax p
  · refine filter_lt hq (k := amin p) (List.mem_range.2 a1) ?_ (decide_eq_true (by omega))
    apply decide_eq_false
    rw [step_get h h0, if_neg hne, if_pos rfl, a2]
    omega
  · refine filter_lt hq (k := amax p) (List.mem_range.2 b1) ?_ (decide_eq_true (by omega))
    apply decide_eq_false
    rw [step_get h h0, if_pos rfl, b2]
    omega
theorem nz_zero {p : List Int} (h : posB p = true) (hn : nz p = 0) : lmin p = 0 := by
  obtain ⟨h1, h2, h3, h4⟩ := posB_spec h
  have := List.countP_eq_zero.1 hn (lmin p) (lmin_spec (p := p) (by omega)).2
  simpa using this

def greedy : Nat → List Int → List C3
  | 0, _ => []
  | f + 1, p => if lmin p = 0 then [] else stepC p :: greedy f (app p (stepC p))
theorem greedy_zero {f : Nat} {p : List Int} (h : lmin p = 0) : greedy f p = [] := by
  cases f with
  | zero => rfl
  | succ f => simp [greedy, h]
theorem greedy_step {f : Nat} {p : List Int} (h : lmin p ≠ 0) : greedy (f + 1) p = stepC p :: greedy f (app p (stepC p)) := by simp [greedy, h]
/-- The settlement of valid positions. -/
def settle (p : List Int) : List C3 := greedy 8 p
theorem nz_le (p : List Int) : nz p ≤ p.length := List.countP_le_length
theorem greedy_length : ∀ (f : Nat) (p : List Int), (greedy f p).length ≤ f
  | 0, p => by simp [greedy]
  | f + 1, p => by
    unfold greedy
    split
    · simp
    · have := greedy_length f (app p (stepC p))
      simp
      omega
end Go.Proofs.Ytidjoikheklpiaa
