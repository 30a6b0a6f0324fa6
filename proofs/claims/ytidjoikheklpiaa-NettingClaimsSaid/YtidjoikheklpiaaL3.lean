/-
  What the laws of netting say, in plain words. No program in sight.
-/
import Derived.Test.YtidjoikheklpiaaW9
namespace Go.Proofs.Ytidjoikheklpiaa
set_option maxRecDepth 20000
set_option linter.unusedSimpArgs false
set_option linter.unusedVariables false
open Go Go.Fw

/-! ### sums with one term -/
theorem sum_one {α : Type} [DecidableEq α] (g : α → Int) (x : α) : ∀ L : List α, L.Nodup → x ∈ L → (∀ y ∈ L, y ≠ x → g y = 0) → (L.map g).sum = g x
  | [], _, h, _ => by cases h
  | y :: L, hnd, hx, h0 => by
    obtain ⟨h1, h2⟩ := List.nodup_cons.1 hnd
    have zero : ∀ M : List α, (∀ z ∈ M, g z = 0) → (M.map g).sum = 0 := by
      intro M
      induction M with
      | nil => intro _; rfl
      | cons z M ih => intro h; simp only [List.map_cons, List.sum_cons, h z (by simp), ih fun u hu => h u (by simp [hu])]; rfl
    simp only [List.map_cons, List.sum_cons]
    rcases List.mem_cons.1 hx with rfl | hx
    · rw [zero L fun z hz => h0 z (by simp [hz]) fun e => h1 (e ▸ hz)]
      omega
    · rw [h0 y (by simp) fun e => h1 (e ▸ hx), sum_one g x L h2 hx fun z hz => h0 z (by simp [hz])]
      omega
theorem sum_map_add {α : Type} (g h : α → Int) (L : List α) : (L.map fun x => g x + h x).sum = (L.map g).sum + (L.map h).sum := by
  induction L with
  | nil => rfl
  | cons x L ih => simp only [List.map_cons, List.sum_cons, ih]; omega
theorem sum_map_le {α : Type} {g h : α → Int} {L : List α} (hh : ∀ x ∈ L, g x ≤ h x) : (L.map g).sum ≤ (L.map h).sum := by
  induction L with
  | nil => simp
  | cons x L ih => have := hh x (by simp); have := ih fun y hy => hh y (by simp [hy]); simp only [List.map_cons, List.sum_cons]; omega
theorem nodup_allP (n a : Nat) : (allP n a).Nodup := by
  have key : ∀ a, (allP n a).Nodup := by
    intro a
    induction a with
    | zero => simp [allP]
    | succ a ih =>
      rw [allP_succ]
      refine List.nodup_append.2 ⟨ih, ?_, fun x hx y hy e => ?_⟩
      · unfold rowP
        exact List.Pairwise.map _ (fun x y hxy h => hxy (by simpa using h)) (List.nodup_range' (step := 1))
      · subst e
        obtain ⟨u, v⟩ := x
        have h1 := mem_allP.1 hx
        have h2 := mem_rowP.1 hy
        omega
  exact key a

/-! ### positions sum to nothing -/
theorem book_sum {n m : Int} {p : List Int} {c : C3} (h : okC n m c = true) (hn : (p.length : Int) = n) : (book p c).sum = p.sum := by
  have hx := okC_spec h
  unfold book
  have h1 : c.f.toNat < p.length := by omega
  have h2 : c.t.toNat < p.length := by omega
  have h4 : ¬ (c.f.toNat = c.t.toNat) := by omega
  dsimp only
  rw [sum_set _ _ _ (by simpa using h2), sum_set _ _ _ h1, getD_set, if_neg (fun h => h4 h.1)]
  omega
theorem posAll_nil (n : Nat) : posAll n [] = List.replicate n 0 := by
  apply List.ext_getElem
  · simp [posAll]
  · intro i h1 h2; simp [posAll, posOf]
theorem rep_sum (n : Nat) : (List.replicate n (0 : Int)).sum = 0 := by
  induction n with
  | zero => rfl
  | succ n ih => rw [List.replicate_succ, List.sum_cons, ih]; rfl
theorem posAll_sum {n : Nat} {m : Int} {l : List C3} (h : ∀ x ∈ l, okC n m x = true) : ∀ k, k ≤ l.length → (posAll n (l.take k)).sum = 0
  | 0, _ => by rw [List.take_zero, posAll_nil, rep_sum]
  | k + 1, hk => by
    have ho := h l[k] (List.getElem_mem _)
    rw [List.take_succ_eq_append_getElem (by omega), ← book_posAll ho, book_sum ho (by rw [posAll_length])]
    exact posAll_sum h k (by omega)
theorem posAll_posB {n : Nat} {l : List C3} (h : claimsB n l = true) : posB (posAll n l) = true := by
  obtain ⟨g1, g2, g3, g4⟩ := claimsB_spec h
  have hs := posAll_sum g4 l.length (Nat.le_refl _)
  rw [List.take_length] at hs
  unfold posB
  rw [posAll_length, hs, decide_eq_true ⟨by omega, by omega, rfl⟩, Bool.true_and, List.all_eq_true]
  intro x hx
  obtain ⟨i, hi, rfl⟩ := mem_getD hx
  rw [posAll_length] at hi
  rw [posAll_get hi]
  have := posOf_small g4 (i : Int)
  exact decide_eq_true (by omega)

/-! ### what creditors are owed -/
def pos (x : Int) : Int := max x 0
def owed (p : List Int) : Int := (p.map pos).sum
theorem owed_set (p : List Int) (k : Nat) (v : Int) (h : k < p.length) : owed (p.set k v) = owed p - pos (p.getD k 0) + pos v := by
  unfold owed
  rw [List.map_set, sum_set _ _ _ (by simpa using h)]
  congr 2
  simp [List.getD, h]
theorem owed_app {n m : Int} {p : List Int} {c : C3} (h : okC n m c = true) (hn : (p.length : Int) = n) : owed (app p c) = owed p - pos (p.getD c.f.toNat 0) + pos (p.getD c.f.toNat 0 + c.a) - pos (p.getD c.t.toNat 0) + pos (p.getD c.t.toNat 0 - c.a) := by
  have hx := okC_spec h
  unfold app
  dsimp only
  rw [owed_set _ _ _ (by simp; omega), owed_set _ _ _ (by omega), getD_set, if_neg (by omega)]
theorem owed_less {n m : Int} {p : List Int} {c : C3} (h : okC n m c = true) (hn : (p.length : Int) = n) : owed p ≤ owed (app p c) + c.a := by
  have hx := okC_spec h
  rw [owed_app h hn]
  unfold pos
  omega
theorem owed_zero {p : List Int} (h : ∀ x ∈ p, x = 0) : owed p = 0 := by
  unfold owed
  induction p with
  | nil => rfl
  | cons x p ih => simp only [List.map_cons, List.sum_cons, ih fun y hy => h y (by simp [hy]), h x (by simp)]; rfl
/-- Whatever settles moves at least what is owed. -/
theorem ApplyM_least {n : Int} : ∀ (l : List C3) (p q : List Int), (p.length : Int) = n → (∀ x ∈ l, okC n 1125899906842624 x = true) → ApplyM p l = some q → owed p ≤ owed q + total l
  | [], p, q, _, _, h => by simp [ApplyM] at h; simp [h, total]
  | c :: l, p, q, hn, hl, h => by
    simp only [ApplyM] at h
    split at h
    · have ih := ApplyM_least l _ q (by rw [app_length]; exact hn) (fun x hx => hl x (by simp [hx])) h
      have := owed_less (hl c (by simp)) hn
      have e : total (c :: l) = c.a + total l := by simp [total]
      omega
    · cases h
theorem ApplyM_length : ∀ (l : List C3) (p q : List Int), ApplyM p l = some q → q.length = p.length
  | [], p, q, h => by simp [ApplyM] at h; rw [h]
  | c :: l, p, q, h => by
    simp only [ApplyM] at h
    split at h
    · rw [ApplyM_length l _ q h, app_length]
    · cases h

/-! ### the greedy settlement -/
theorem two_in {l : List Nat} {a b : Nat} (ha : a ∈ l) (hb : b ∈ l) (hne : a ≠ b) : 2 ≤ l.length := by
  match l, ha, hb with
  | [x], ha, hb => simp at ha hb; omega
  | x :: y :: l, _, _ => simp
theorem nz_two {p : List Int} (h : posB p = true) (h0 : lmin p ≠ 0) : 2 ≤ nz p := by
  obtain ⟨h1, h2, h3, h4⟩ := posB_spec h
  obtain ⟨l1, l2⟩ := low_high h h0
  obtain ⟨a1, a2, _⟩ := amin_spec (p := p) (by omega)
  obtain ⟨b1, b2, _⟩ := amax_spec (p := p) (by omega)
  rw [nz_eq]
  exact two_in (a := amin p) (b := amax p) (List.mem_filter.2 ⟨List.mem_range.2 a1, decide_eq_true (by omega)⟩) (List.mem_filter.2 ⟨List.mem_range.2 b1, decide_eq_true (by omega)⟩) (step_ne h h0)
theorem greedy_few : ∀ (f : Nat) (p : List Int), posB p = true → (greedy f p).length + 1 ≤ max (nz p) 1
  | 0, p, _ => by simp [greedy]; omega
  | f + 1, p, h => by
    by_cases h0 : lmin p = 0
    · rw [greedy_zero h0]; simp; omega
    · rw [greedy_step h0]
      have ih := greedy_few f _ (app_posB h h0)
      have := nz_step h h0
      have := nz_two h h0
      simp only [List.length_cons]
      omega
theorem settle_few {p : List Int} (h : posB p = true) : (settle p).length < p.length := by
  have := greedy_few 8 p h
  have := nz_le p
  have := (posB_spec h).1
  unfold settle
  omega
theorem greedy_ok : ∀ (f : Nat) (p : List Int), posB p = true → ∀ c ∈ greedy f p, okC p.length 1125899906842624 c = true ∧ p.getD c.f.toNat 0 < 0 ∧ 0 < p.getD c.t.toNat 0
  | 0, p, _, c, hc => by cases hc
  | f + 1, p, h, c, hc => by
    by_cases h0 : lmin p = 0
    · rw [greedy_zero h0] at hc; cases hc
    · rw [greedy_step h0] at hc
      obtain ⟨h1, h2, h3, h4⟩ := posB_spec h
      rcases List.mem_cons.1 hc with rfl | hc
      · obtain ⟨l1, l2⟩ := low_high h h0
        obtain ⟨a1, a2, _⟩ := amin_spec (p := p) (by omega)
        obtain ⟨b1, b2, _⟩ := amax_spec (p := p) (by omega)
        refine ⟨stepC_ok h h0, ?_, ?_⟩
        · show p.getD (amin p) 0 < 0
          omega
        · show 0 < p.getD (amax p) 0
          omega
      · obtain ⟨i1, i2, i3⟩ := greedy_ok f _ (app_posB h h0) c hc
        rw [app_length] at i1
        have b1 := step_between h h0 c.f.toNat
        have b2 := step_between h h0 c.t.toNat
        refine ⟨i1, ?_, ?_⟩
        · rcases Int.lt_or_le (p.getD c.f.toNat 0) 0 with h | h
          · exact h
          · have := b1.1 h; omega
        · rcases Int.lt_or_le 0 (p.getD c.t.toNat 0) with h | h
          · exact h
          · have := b2.2 h; omega
theorem settle_ok {p : List Int} (h : posB p = true) : ∀ c ∈ settle p, okC p.length 1125899906842624 c = true ∧ p.getD c.f.toNat 0 < 0 ∧ 0 < p.getD c.t.toNat 0 := greedy_ok 8 p h
theorem settle_not_bad {p : List Int} (h : posB p = true) : badsB p.length (settle p) = false := by
  unfold badsB
  rw [List.any_eq_false]
  intro x hx
  simp [(settle_ok h x hx).1]
theorem greedy_apply : ∀ (f : Nat) (p : List Int), posB p = true → nz p ≤ f → ∃ q, ApplyM p (greedy f p) = some q ∧ q.length = p.length ∧ ∀ x ∈ q, x = 0
  | 0, p, h, hn => ⟨p, rfl, rfl, all_zero h (nz_zero h (by omega))⟩
  | f + 1, p, h, hn => by
    by_cases h0 : lmin p = 0
    · rw [greedy_zero h0]
      exact ⟨p, rfl, rfl, all_zero h h0⟩
    · rw [greedy_step h0]
      obtain ⟨q, i1, i2, i3⟩ := greedy_apply f _ (app_posB h h0) (by have := nz_step h h0; omega)
      have ho := okC_spec (stepC_ok h h0)
      have hs := posB_small (app_posB h h0)
      rw [ApplyM_cons ⟨decide_eq_true (hs _ (by rw [app_length]; omega)), decide_eq_true (hs _ (by rw [app_length]; omega))⟩]
      exact ⟨q, i1, by rw [i2, app_length], i3⟩
theorem settle_apply {p : List Int} (h : posB p = true) : ∃ q, ApplyM p (settle p) = some q ∧ q.length = p.length ∧ ∀ x ∈ q, x = 0 :=
  greedy_apply 8 p h (by have := nz_le p; have := (posB_spec h).2.1; omega)
theorem greedy_total : ∀ (f : Nat) (p : List Int), posB p = true → nz p ≤ f → total (greedy f p) = owed p
  | 0, p, h, hn => by rw [owed_zero (all_zero h (nz_zero h (by omega)))]; rfl
  | f + 1, p, h, hn => by
    by_cases h0 : lmin p = 0
    · rw [greedy_zero h0, owed_zero (all_zero h h0)]; rfl
    · rw [greedy_step h0]
      have ih := greedy_total f _ (app_posB h h0) (by have := nz_step h h0; omega)
      obtain ⟨h1, h2, h3, h4⟩ := posB_spec h
      obtain ⟨l1, l2⟩ := low_high h h0
      obtain ⟨a1, a2, _⟩ := amin_spec (p := p) (by omega)
      obtain ⟨b1, b2, _⟩ := amax_spec (p := p) (by omega)
      have e : total (stepC p :: greedy f (app p (stepC p))) = (stepC p).a + total (greedy f (app p (stepC p))) := by simp [total]
      rw [e, ih, owed_app (stepC_ok h h0) rfl]
      have e1 : p.getD (stepC p).f.toNat 0 = lmin p := a2
      have e2 : p.getD (stepC p).t.toNat 0 = lmax p := b2
      have e3 : (stepC p).a = min (-lmin p) (lmax p) := rfl
      rw [e1, e2, e3]
      unfold pos
      omega
theorem settle_total {p : List Int} (h : posB p = true) : total (settle p) = owed p :=
  greedy_total 8 p h (by have := nz_le p; have := (posB_spec h).2.1; omega)

/-! ### less is moved than is claimed -/
theorem owed_book {n m : Int} {p : List Int} {c : C3} (h : okC n m c = true) (hn : (p.length : Int) = n) : owed (book p c) ≤ owed p + c.a := by
  have hx := okC_spec h
  unfold book
  dsimp only
  rw [owed_set _ _ _ (by simp; omega), owed_set _ _ _ (by omega), getD_set, if_neg (by omega)]
  unfold pos
  omega
theorem owed_posAll {n : Nat} {m : Int} {l : List C3} (h : ∀ x ∈ l, okC n m x = true) : ∀ k, k ≤ l.length → owed (posAll n (l.take k)) ≤ total (l.take k)
  | 0, _ => by
    rw [List.take_zero, posAll_nil, owed_zero (fun x hx => (List.mem_replicate.1 hx).2)]
    simp [total]
  | k + 1, hk => by
    have ho := h l[k] (List.getElem_mem _)
    have ih := owed_posAll h k (by omega)
    rw [List.take_succ_eq_append_getElem (by omega), ← book_posAll ho, total_snoc]
    have := owed_book (p := posAll n (l.take k)) ho (by rw [posAll_length])
    omega
theorem saved_pos {n : Nat} {l : List C3} (h : claimsB n l = true) : total (settle (posAll n l)) ≤ total l := by
  rw [settle_total (posAll_posB h)]
  have := owed_posAll (claimsB_spec h).2.2.2 l.length (Nat.le_refl _)
  rwa [List.take_length] at this

/-! ### netting pairs -/
/-- What a pair moves to a bank. -/
def mvP (i : Int) (p : Nat × Nat) (d : Int) : Int := if i = p.2 then d else if i = p.1 then -d else 0
theorem mvP_add (i : Int) (p : Nat × Nat) (d e : Int) : mvP i p (d + e) = mvP i p d + mvP i p e := by
  unfold mvP
  split
  · rfl
  · split <;> omega
def dif (l : List C3) (p : Nat × Nat) : Int := owe p.1 p.2 l - owe p.2 p.1 l
theorem posOf_bil1 {l : List C3} {p : Nat × Nat} (h : p.1 < p.2) (i : Int) : posOf i (bil1 l p) = mvP i p (dif l p) := by
  unfold bil1 dif
  dsimp only
  generalize owe p.1 p.2 l - owe p.2 p.1 l = d
  unfold mvP
  by_cases h0 : d = 0
  · rw [if_pos h0, h0]
    simp [posOf]
  · rw [if_neg h0]
    by_cases h1 : d < 0
    · rw [if_pos h1]
      simp only [posOf, mvC, List.map_cons, List.map_nil, List.sum_cons, List.sum_nil]
      by_cases e1 : i = p.1
      · rw [if_pos e1, if_neg (by omega), if_pos e1]; omega
      · rw [if_neg e1]
        by_cases e2 : i = p.2
        · rw [if_pos e2, if_pos e2]; omega
        · rw [if_neg e2, if_neg e2, if_neg e1]; omega
    · rw [if_neg h1]
      simp only [posOf, mvC, List.map_cons, List.map_nil, List.sum_cons, List.sum_nil]
      omega
theorem posOf_append (i : Int) (l m : List C3) : posOf i (l ++ m) = posOf i l + posOf i m := by simp [posOf]
theorem posOf_bilL {l : List C3} (i : Int) : ∀ ps : List (Nat × Nat), (∀ p ∈ ps, p.1 < p.2) → posOf i (bilL l ps) = (ps.map fun p => mvP i p (dif l p)).sum
  | [], _ => by simp [bilL, posOf]
  | p :: ps, h => by
    have e : bilL l (p :: ps) = bil1 l p ++ bilL l ps := by simp [bilL]
    rw [e, posOf_append, posOf_bil1 (h p (by simp)), posOf_bilL i ps fun q hq => h q (by simp [hq])]
    simp
theorem allP_lt {n : Nat} : ∀ p ∈ allP n n, p.1 < p.2 := by
  rintro ⟨a, b⟩ h
  have := mem_allP.1 h
  dsimp only
  omega
/-- The pair of a claim. -/
def pairOf (c : C3) : Nat × Nat := (min c.f.toNat c.t.toNat, max c.f.toNat c.t.toNat)
theorem pairOf_mem {n : Nat} {m : Int} {c : C3} (h : okC n m c = true) : pairOf c ∈ allP n n := by
  have := okC_spec h
  unfold pairOf
  rw [mem_allP]
  omega
theorem ow_other {n m : Int} {c : C3} (h : okC n m c = true) {p : Nat × Nat} (hp : p.1 < p.2) (hne : p ≠ pairOf c) : ow1 p.1 p.2 c = 0 ∧ ow1 p.2 p.1 c = 0 := by
  have hx := okC_spec h
  obtain ⟨a, b⟩ := p
  unfold pairOf at hne
  dsimp only at hp ⊢
  have hne' : ¬ (a = min c.f.toNat c.t.toNat ∧ b = max c.f.toNat c.t.toNat) := fun h => hne (by rw [h.1, h.2])
  unfold ow1
  constructor
  · rw [if_neg]
    intro e
    apply hne'
    omega
  · rw [if_neg]
    intro e
    apply hne'
    omega
theorem ow_pair {n m : Int} {c : C3} (h : okC n m c = true) : (ow1 (pairOf c).1 (pairOf c).2 c = c.a ∧ ow1 (pairOf c).2 (pairOf c).1 c = 0 ∧ c.f = (pairOf c).1 ∧ c.t = (pairOf c).2) ∨ (ow1 (pairOf c).1 (pairOf c).2 c = 0 ∧ ow1 (pairOf c).2 (pairOf c).1 c = c.a ∧ c.t = (pairOf c).1 ∧ c.f = (pairOf c).2) := by
  have hx := okC_spec h
  unfold pairOf ow1
  dsimp only
  by_cases e : c.f.toNat ≤ c.t.toNat
  · left
    rw [if_pos (by omega), if_neg (by omega)]
    omega
  · right
    rw [if_neg (by omega), if_pos (by omega)]
    omega
theorem posOf_pairs {n : Nat} {m : Int} {l : List C3} (h : ∀ x ∈ l, okC n m x = true) (i : Int) : ∀ k, k ≤ l.length → ((allP n n).map fun p => mvP i p (dif (l.take k) p)).sum = posOf i (l.take k)
  | 0, _ => by
    have : ∀ ps : List (Nat × Nat), (ps.map fun p => mvP i p (dif ([] : List C3) p)).sum = 0 := by
      intro ps
      induction ps with
      | nil => rfl
      | cons p ps ih =>
        simp only [List.map_cons, List.sum_cons, ih]
        simp [mvP, dif, owe]
    rw [List.take_zero, this]
    rfl
  | k + 1, hk => by
    have ho := h l[k] (List.getElem_mem _)
    have ih := posOf_pairs h i k (by omega)
    rw [List.take_succ_eq_append_getElem (by omega), posOf_snoc, ← ih]
    have e : (fun p : Nat × Nat => mvP i p (dif (l.take k ++ [l[k]]) p)) = fun p => mvP i p (dif (l.take k) p) + mvP i p (ow1 p.1 p.2 l[k] - ow1 p.2 p.1 l[k]) := by
      funext p
      rw [← mvP_add]
      congr 1
      unfold dif
      rw [owe_snoc, owe_snoc]
      omega
    rw [e, sum_map_add]
    congr 1
    rw [sum_one _ (pairOf l[k]) _ (nodup_allP n n) (pairOf_mem ho) fun p hp hne => by
      obtain ⟨e1, e2⟩ := ow_other ho (allP_lt p hp) hne
      rw [e1, e2]
      simp [mvP]]
    have hx := okC_spec ho
    unfold mvP mvC
    rcases ow_pair ho with ⟨e1, e2, e3, e4⟩ | ⟨e1, e2, e3, e4⟩
    · rw [e1, e2, ← e3, ← e4]
      simp
    · rw [e1, e2, ← e3, ← e4]
      by_cases g1 : i = l[k].f
      · rw [if_pos g1, if_neg (by omega), if_pos g1]; omega
      · rw [if_neg g1]
        by_cases g2 : i = l[k].t
        · rw [if_pos g2, if_pos g2]; omega
        · rw [if_neg g2, if_neg g2, if_neg g1]
theorem posOf_bil {n : Nat} {m : Int} {l : List C3} (h : ∀ x ∈ l, okC n m x = true) (i : Int) : posOf i (bilL l (allP n n)) = posOf i l := by
  rw [posOf_bilL i _ allP_lt]
  have := posOf_pairs h i l.length (Nat.le_refl _)
  rwa [List.take_length] at this

theorem owe_append (a b : Int) (l m : List C3) : owe a b (l ++ m) = owe a b l + owe a b m := by simp [owe]
theorem dif_append (l m : List C3) (p : Nat × Nat) : dif (l ++ m) p = dif l p + dif m p := by
  unfold dif
  rw [owe_append, owe_append]
  omega
theorem dif_bil1 {l : List C3} {p q : Nat × Nat} (hp : p.1 < p.2) (hq : q.1 < q.2) : dif (bil1 l q) p = if p = q then dif l q else 0 := by
  obtain ⟨a, b⟩ := p
  obtain ⟨x, y⟩ := q
  dsimp only at hp hq
  unfold bil1
  have e0 : owe ((x, y) : Nat × Nat).1 ((x, y) : Nat × Nat).2 l - owe ((x, y) : Nat × Nat).2 ((x, y) : Nat × Nat).1 l = dif l (x, y) := rfl
  dsimp only at e0 ⊢
  rw [e0]
  generalize dif l (x, y) = d
  by_cases h0 : d = 0
  · rw [if_pos h0, h0]
    simp [dif, owe]
  · rw [if_neg h0]
    have key : ((a, b) = (x, y)) ↔ (a = x ∧ b = y) := by simp
    by_cases h1 : d < 0
    · rw [if_pos h1]
      simp only [dif, owe, ow1, List.map_cons, List.map_nil, List.sum_cons, List.sum_nil]
      by_cases e : a = x ∧ b = y
      · rw [if_pos (key.2 e), if_neg (by omega), if_pos (by omega)]; omega
      · rw [if_neg (fun h => e (key.1 h)), if_neg (by omega), if_neg (by omega)]; omega
    · rw [if_neg h1]
      simp only [dif, owe, ow1, List.map_cons, List.map_nil, List.sum_cons, List.sum_nil]
      by_cases e : a = x ∧ b = y
      · rw [if_pos (key.2 e), if_pos (by omega), if_neg (by omega)]; omega
      · rw [if_neg (fun h => e (key.1 h)), if_neg (by omega), if_neg (by omega)]; omega
theorem dif_bilL {l : List C3} {p : Nat × Nat} (hp : p.1 < p.2) : ∀ ps : List (Nat × Nat), (∀ q ∈ ps, q.1 < q.2) → dif (bilL l ps) p = (ps.map fun q => if p = q then dif l q else 0).sum
  | [], _ => by simp [bilL, dif, owe]
  | q :: ps, h => by
    have e : bilL l (q :: ps) = bil1 l q ++ bilL l ps := by simp [bilL]
    rw [e, dif_append, dif_bil1 hp (h q (by simp)), dif_bilL hp ps fun r hr => h r (by simp [hr])]
    simp
theorem dif_bil {n : Nat} {l : List C3} {p : Nat × Nat} (hp : p ∈ allP n n) : dif (bilL l (allP n n)) p = dif l p := by
  rw [dif_bilL (allP_lt p hp) _ allP_lt, sum_one _ p _ (nodup_allP n n) hp fun q _ hne => if_neg (Ne.symm hne), if_pos rfl]
/-- Netted again, nothing changes. -/
theorem Bil_again {n : Nat} {l b : List C3} (h : Bil n l = (b, true)) : Bil n b = (b, true) := by
  unfold Bil at h
  split at h
  · rename_i hall
    obtain ⟨rfl, _⟩ := Prod.mk.inj h
    have e1 : ∀ p ∈ allP n n, bil1 (bilL l (allP n n)) p = bil1 l p := by
      intro p hp
      have := dif_bil (l := l) hp
      unfold dif at this
      unfold bil1
      dsimp only
      rw [this]
    have e2 : ∀ p ∈ allP n n, bilS (bilL l (allP n n)) p = bilS l p := by
      intro p hp
      have := dif_bil (l := l) hp
      unfold dif at this
      unfold bilS
      rw [this]
    have e3 : bilL (bilL l (allP n n)) (allP n n) = bilL l (allP n n) := by
      unfold bilL at e1 ⊢
      rw [List.flatMap_def, List.flatMap_def]
      congr 1
      exact List.map_congr_left e1
    unfold Bil
    rw [if_pos, e3]
    rw [List.all_eq_true]
    intro p hp
    rw [e2 p hp]
    exact List.all_eq_true.1 hall p hp
  · exact absurd (Prod.mk.inj h).2 (by simp)
theorem bil1_few (l : List C3) (p : Nat × Nat) : (bil1 l p).length ≤ 1 := by
  unfold bil1
  dsimp only
  split
  · simp
  · split <;> simp
theorem bilL_few (l : List C3) : ∀ ps : List (Nat × Nat), (bilL l ps).length ≤ ps.length
  | [] => by simp [bilL]
  | p :: ps => by
    have e : bilL l (p :: ps) = bil1 l p ++ bilL l ps := by simp [bilL]
    rw [e, List.length_append, List.length_cons]
    have := bil1_few l p
    have := bilL_few l ps
    omega
theorem allP_count {n : Nat} (h : n ≤ 8) : (allP n n).length * 2 = n * (n - 1) := by
  have : n = 0 ∨ n = 1 ∨ n = 2 ∨ n = 3 ∨ n = 4 ∨ n = 5 ∨ n = 6 ∨ n = 7 ∨ n = 8 := by omega
  rcases this with rfl | rfl | rfl | rfl | rfl | rfl | rfl | rfl | rfl <;> decide
theorem Bil_ok {n : Nat} {l b : List C3} (hn1 : 1 ≤ n) (hn : n ≤ 8) (h : Bil n l = (b, true)) : claimsB n b = true ∧ b.length * 2 ≤ n * (n - 1) := by
  unfold Bil at h
  split at h
  · rename_i hall
    obtain ⟨rfl, _⟩ := Prod.mk.inj h
    have hc := allP_count hn
    have hf := bilL_few l (allP n n)
    have hle : n * (n - 1) ≤ 56 := by
      have : n * (n - 1) ≤ 8 * 7 := Nat.mul_le_mul hn (by omega)
      omega
    refine ⟨?_, by omega⟩
    unfold claimsB
    rw [decide_eq_true ⟨by omega, by omega, by omega⟩, Bool.true_and, List.all_eq_true]
    intro c hc
    obtain ⟨⟨x, y⟩, hp, hcp⟩ := List.mem_flatMap.1 hc
    have hs := of_decide_eq_true (List.all_eq_true.1 hall _ hp)
    have hm := mem_allP.1 hp
    unfold bil1 at hcp
    dsimp only at hcp hs
    generalize owe x y l - owe y x l = d at *
    split at hcp
    · cases hcp
    · split at hcp
      · obtain rfl : c = _ := by simpa using hcp
        exact decide_eq_true (by dsimp only; omega)
      · obtain rfl : c = _ := by simpa using hcp
        exact decide_eq_true (by dsimp only; omega)
  · exact absurd (Prod.mk.inj h).2 (by simp)
theorem total_append (l m : List C3) : total (l ++ m) = total l + total m := by simp [total]
theorem total_bil1 {l : List C3} {p : Nat × Nat} (h1 : 0 ≤ owe p.1 p.2 l) (h2 : 0 ≤ owe p.2 p.1 l) : total (bil1 l p) ≤ owe p.1 p.2 l + owe p.2 p.1 l := by
  unfold bil1
  dsimp only
  split
  · simp [total]; omega
  · split
    · simp [total]; omega
    · simp [total]; omega
theorem total_bilL {n : Int} {l : List C3} (h : ∀ x ∈ l, okC n 1099511627776 x = true) : ∀ ps : List (Nat × Nat), total (bilL l ps) ≤ (ps.map fun p => owe p.1 p.2 l + owe p.2 p.1 l).sum
  | [] => by simp [bilL, total]
  | p :: ps => by
    have e : bilL l (p :: ps) = bil1 l p ++ bilL l ps := by simp [bilL]
    rw [e, total_append]
    have := total_bilL h ps
    have := total_bil1 (p := p) (owe_small h p.1 p.2).1 (owe_small h p.2 p.1).1
    simp only [List.map_cons, List.sum_cons]
    omega
theorem owe_pairs {n : Nat} {m : Int} {l : List C3} (h : ∀ x ∈ l, okC n m x = true) : ∀ k, k ≤ l.length → ((allP n n).map fun p => owe p.1 p.2 (l.take k) + owe p.2 p.1 (l.take k)).sum = total (l.take k)
  | 0, _ => by
    have : ∀ ps : List (Nat × Nat), (ps.map fun p => owe p.1 p.2 ([] : List C3) + owe p.2 p.1 ([] : List C3)).sum = 0 := by
      intro ps
      induction ps with
      | nil => rfl
      | cons p ps ih =>
        simp only [List.map_cons, List.sum_cons, ih]
        simp [owe]
    rw [List.take_zero, this]
    rfl
  | k + 1, hk => by
    have ho := h l[k] (List.getElem_mem _)
    have ih := owe_pairs h k (by omega)
    rw [List.take_succ_eq_append_getElem (by omega), total_snoc, ← ih]
    have e : (fun p : Nat × Nat => owe p.1 p.2 (l.take k ++ [l[k]]) + owe p.2 p.1 (l.take k ++ [l[k]])) = fun p => (owe p.1 p.2 (l.take k) + owe p.2 p.1 (l.take k)) + (ow1 p.1 p.2 l[k] + ow1 p.2 p.1 l[k]) := by
      funext p
      rw [owe_snoc, owe_snoc]
      omega
    rw [e, sum_map_add]
    congr 1
    rw [sum_one _ (pairOf l[k]) _ (nodup_allP n n) (pairOf_mem ho) fun p hp hne => by
      obtain ⟨e1, e2⟩ := ow_other ho (allP_lt p hp) hne
      rw [e1, e2]
      rfl]
    rcases ow_pair ho with ⟨e1, e2, _⟩ | ⟨e1, e2, _⟩ <;> rw [e1, e2] <;> omega
theorem total_bil {n : Nat} {l b : List C3} (hc : claimsB n l = true) (h : Bil n l = (b, true)) : total b ≤ total l := by
  unfold Bil at h
  split at h
  · obtain ⟨rfl, _⟩ := Prod.mk.inj h
    have g4 := (claimsB_spec hc).2.2.2
    have h1 := total_bilL g4 (allP n n)
    have h2 := owe_pairs g4 l.length (Nat.le_refl _)
    rw [List.take_length] at h2
    omega
  · exact absurd (Prod.mk.inj h).2 (by simp)
theorem posAll_bil {n : Nat} {l b : List C3} (hc : claimsB n l = true) (h : Bil n l = (b, true)) : posAll n b = posAll n l := by
  unfold Bil at h
  split at h
  · obtain ⟨rfl, _⟩ := Prod.mk.inj h
    unfold posAll
    apply List.map_congr_left
    intro i _
    exact posOf_bil (claimsB_spec hc).2.2.2 i
  · exact absurd (Prod.mk.inj h).2 (by simp)

/-! ### a claim and one back -/
def rev (c : C3) : C3 := ⟨c.t, c.f, c.a⟩
theorem rev_ok {n m : Int} {c : C3} (h : okC n m c = true) : okC n m (rev c) = true := by
  have := okC_spec h
  unfold rev okC
  apply decide_eq_true
  dsimp only
  omega
theorem mvC_rev {n m : Int} {c : C3} (h : okC n m c = true) (i : Int) : mvC i (rev c) = -mvC i c := by
  have := okC_spec h
  unfold mvC rev
  dsimp only
  by_cases e : i = c.f
  · rw [if_pos e, if_neg (by omega), if_pos e]; omega
  · rw [if_neg e]
    by_cases e2 : i = c.t
    · rw [if_pos e2, if_pos e2]
    · rw [if_neg e2, if_neg e2, if_neg e]; omega
theorem posOf_rev {n m : Int} {l : List C3} (h : ∀ x ∈ l, okC n m x = true) (i : Int) : posOf i (l.map rev) = -posOf i l := by
  induction l with
  | nil => simp [posOf]
  | cons c l ih =>
    have ih := ih fun y hy => h y (by simp [hy])
    simp only [posOf, List.map_cons, List.sum_cons] at ih ⊢
    rw [mvC_rev (h c (by simp)), ih]
    omega
end Go.Proofs.Ytidjoikheklpiaa
