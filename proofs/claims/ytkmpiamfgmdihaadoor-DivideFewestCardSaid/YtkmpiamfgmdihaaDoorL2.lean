/-
  The tree of the leaves of a coin, in plain words: conflicts, ranges, fewest nodes. No program in sight.
-/
import Derived.Test.YtkmpiamfgmdihaaDoorL1
namespace Go.Proofs.YtkmpiamfgmdihaaDoor
set_option maxRecDepth 20000
set_option linter.unusedSimpArgs false
set_option linter.unusedVariables false
open Go Go.Fw
/-! #### conflicts -/
theorem sz_ratio {d a b : Nat} (h : a ≤ b) (hb : b ≤ d) : sz d a = 2 ^ (b - a) * sz d b := by
  unfold sz; rw [← Nat.pow_add]; congr 1; omega
/-- Two nodes have a leaf in common. -/
def ovl (d al ai bl bi : Nat) : Prop := ai * sz d al < bi * sz d bl + sz d bl ∧ bi * sz d bl < ai * sz d al + sz d al
theorem ovl_comm {d al ai bl bi : Nat} : ovl d al ai bl bi ↔ ovl d bl bi al ai := And.comm
theorem ovl_iff {d al ai bl bi : Nat} (h : al ≤ bl) (hb : bl ≤ d) : ovl d al ai bl bi ↔ bi / 2 ^ (bl - al) = ai := by
  have hs := sz_ratio h hb
  have hp := sz_pos d bl
  have h1 : 0 < 2 ^ (bl - al) := Nat.two_pow_pos _
  unfold ovl
  rw [hs]
  generalize sz d bl = S at *
  generalize 2 ^ (bl - al) = K at *
  have e1 : ai * (K * S) < bi * S + S ↔ ai * K ≤ bi := by
    rw [← Nat.mul_assoc, ← Nat.succ_mul, Nat.mul_lt_mul_right hp]; omega
  have e2 : bi * S < ai * (K * S) + K * S ↔ bi < ai * K + K := by
    rw [← Nat.mul_assoc, ← Nat.add_mul, Nat.mul_lt_mul_right hp]
  rw [e1, e2, Nat.div_eq_iff h1]
  constructor
  · rintro ⟨a, b⟩; omega
  · rintro ⟨a, b⟩; omega
/-- One is reached from the other by going to parents. -/
def upN (al ai bl bi : Nat) : Prop := bl ≤ al ∧ ai / 2 ^ (al - bl) = bi
theorem ovl_up {d al ai bl bi : Nat} (ha : al ≤ d) (hb : bl ≤ d) : ovl d al ai bl bi ↔ (upN al ai bl bi ∨ upN bl bi al ai) := by
  rcases Nat.le_total al bl with h | h
  · rw [ovl_iff h hb]
    constructor
    · intro e; exact .inr ⟨h, e⟩
    · rintro (⟨h2, e⟩ | ⟨_, e⟩)
      · have : al = bl := by omega
        subst this
        simpa using e.symm
      · exact e
  · rw [ovl_comm, ovl_iff h ha]
    constructor
    · intro e; exact .inl ⟨h, e⟩
    · rintro (⟨_, e⟩ | ⟨h2, e⟩)
      · exact e
      · have : al = bl := by omega
        subst this
        simpa using e.symm
theorem sz_half {d l : Nat} (h : l < d) : sz d l = 2 * sz d (l + 1) := by
  unfold sz
  rw [show d - l = (d - (l + 1)) + 1 by omega, Nat.pow_succ, Nat.mul_comm]
theorem ovl_halves {d al ai bl bi : Nat} (ha : al < d) : ovl d al ai bl bi ↔ (ovl d (al + 1) (2 * ai) bl bi ∨ ovl d (al + 1) (2 * ai + 1) bl bi) := by
  have hs := sz_half ha
  have hp := sz_pos d (al + 1)
  have hp2 := sz_pos d bl
  unfold ovl
  rw [hs]
  generalize sz d (al + 1) = S at *
  generalize bi * sz d bl = F at *
  generalize sz d bl = B at *
  have e1 : ai * (2 * S) = 2 * (ai * S) := by rw [← Nat.mul_assoc, Nat.mul_comm ai 2, Nat.mul_assoc]
  have e2 : 2 * ai * S = 2 * (ai * S) := Nat.mul_assoc _ _ _
  have e3 : (2 * ai + 1) * S = 2 * (ai * S) + S := by rw [Nat.add_mul, Nat.one_mul, Nat.mul_assoc]
  rw [e1, e2, e3]
  generalize ai * S = A at *
  omega
theorem not_ovl_siblings {d al ai : Nat} (ha : al < d) : ¬ ovl d (al + 1) (2 * ai) (al + 1) (2 * ai + 1) := by
  rw [ovl_iff (Nat.le_refl _) (by omega)]
  simp

/-! #### ranges -/
/-- The node fits: it begins at this leaf, and does not end later. -/
def fits (d at_ to l : Nat) : Prop := at_ % sz d l = 0 ∧ at_ + sz d l ≤ to
instance (d at_ to l : Nat) : Decidable (fits d at_ to l) := by unfold fits; infer_instance
def lvl (d at_ to : Nat) : Nat := ((List.range (d + 1)).find? fun l => decide (fits d at_ to l)).getD d
theorem fits_mono {d at_ to k l : Nat} (hk : k ≤ l) (hl : l ≤ d) (h : fits d at_ to k) : fits d at_ to l := by
  have hs := sz_ratio hk hl
  have hp : 1 ≤ 2 ^ (l - k) := Nat.one_le_two_pow
  unfold fits at *
  rw [hs] at h
  refine ⟨Nat.mod_eq_zero_of_dvd (Nat.dvd_trans ⟨2 ^ (l - k), Nat.mul_comm _ _⟩ (Nat.dvd_of_mod_eq_zero h.1)), ?_⟩
  have := Nat.mul_le_mul_right (sz d l) hp
  omega
theorem fits_leaf {d at_ to : Nat} (h : at_ < to) : fits d at_ to d := by
  have h1 : sz d d = 1 := by unfold sz; rw [Nat.sub_self]
  unfold fits
  rw [h1]
  exact ⟨Nat.mod_one _, by omega⟩
theorem lvl_eq {d at_ to l : Nat} (hl : l ≤ d) (h : fits d at_ to l) (hno : ∀ k, k < l → ¬ fits d at_ to k) : lvl d at_ to = l := by
  unfold lvl
  rw [find_range (i := l) (by omega) (by simpa using h) (fun j hj => by simpa using hno j hj)]
  rfl
theorem lvl_spec {d at_ to : Nat} (h : at_ < to) : lvl d at_ to ≤ d ∧ fits d at_ to (lvl d at_ to) := by
  unfold lvl
  cases e : (List.range (d + 1)).find? fun l => decide (fits d at_ to l) with
  | none =>
    have := List.find?_eq_none.1 e d (List.mem_range.2 (by omega))
    simp at this
    exact absurd (fits_leaf h) this
  | some l =>
    have h1 := List.find?_some e
    have h2 := List.mem_range.1 (List.mem_of_find?_eq_some e)
    exact ⟨by simp; omega, by simpa using h1⟩
/-- The nodes of a range. -/
def nod (d : Nat) : Nat → Nat → Nat → List (Nat × Nat)
  | 0, _, _ => []
  | f + 1, a, to => if a < to then (lvl d a to, a / sz d (lvl d a to)) :: nod d f (a + sz d (lvl d a to)) to else []
theorem nod_succ {d f a to : Nat} (h : a < to) : nod d (f + 1) a to = (lvl d a to, a / sz d (lvl d a to)) :: nod d f (a + sz d (lvl d a to)) to := by
  simp only [nod]; rw [if_pos h]
theorem nod_end {d f a to : Nat} (h : ¬ a < to) : nod d f a to = [] := by
  cases f with
  | zero => rfl
  | succ f => simp only [nod]; rw [if_neg h]
theorem nod_at {d a to : Nat} (h : a < to) : a / sz d (lvl d a to) * sz d (lvl d a to) = a := by
  have := (lvl_spec (d := d) h).2.1
  have := Nat.div_add_mod a (sz d (lvl d a to))
  rw [Nat.mul_comm]
  omega
theorem nod_index {d a to : Nat} (h : a < to) (ht : to ≤ 2 ^ d) : a / sz d (lvl d a to) < 2 ^ lvl d a to := by
  obtain ⟨h1, h2⟩ := lvl_spec (d := d) h
  rw [Nat.div_lt_iff_lt_mul (sz_pos _ _), sz_mul h1]
  omega

/-! #### fewest nodes -/
/-- The least number of free nodes of a part of so many leaves (2 to the h-th), with exactly m leaves; 100 if there are none. -/
def fws : Nat → List Bool → Nat → Nat
  | 0, s, m => if m = 0 then 0 else if 1 < m then 100 else if m = 1 ∧ s.contains true = false then 1 else 100
  | h + 1, s, m => if m = 0 then 0 else if 2 ^ (h + 1) < m then 100 else if m = 2 ^ (h + 1) ∧ s.contains true = false then 1 else
    (List.range (m + 1)).foldl (fun b k => min b (fws h (s.take (2 ^ h)) k + fws h (s.drop (2 ^ h)) (m - k))) 100
def bestN (h : Nat) (s : List Bool) (m k : Nat) : Nat := (List.range k).foldl (fun b k => min b (fws h (s.take (2 ^ h)) k + fws h (s.drop (2 ^ h)) (m - k))) 100
theorem bestN_zero (h : Nat) (s : List Bool) (m : Nat) : bestN h s m 0 = 100 := rfl
theorem bestN_succ (h : Nat) (s : List Bool) (m k : Nat) : bestN h s m (k + 1) = min (bestN h s m k) (fws h (s.take (2 ^ h)) k + fws h (s.drop (2 ^ h)) (m - k)) := by
  unfold bestN; rw [List.range_succ, List.foldl_append]; rfl
theorem foldl_min_le (f : Nat → Nat) : ∀ (l : List Nat) (b : Nat), l.foldl (fun b k => min b (f k)) b ≤ b
  | [], b => Nat.le_refl b
  | x :: l, b => by
    have := foldl_min_le f l (min b (f x))
    simp only [List.foldl_cons]; omega
theorem fws_le : ∀ (h : Nat) (s : List Bool) (m : Nat), fws h s m ≤ 100
  | 0, s, m => by unfold fws; split; omega; split; omega; split <;> omega
  | h + 1, s, m => by
    unfold fws
    split
    · omega
    · split
      · omega
      · split
        · omega
        · exact foldl_min_le _ _ _
/-- The same, as a table. -/
def tab : Nat → List Bool → List Nat
  | 0, s => [0, if s.contains true then 100 else 1]
  | h + 1, s =>
    let a := tab h (s.take (2 ^ h))
    let b := tab h (s.drop (2 ^ h))
    (List.range (2 ^ (h + 1) + 1)).map fun m => if m = 0 then 0 else if m = 2 ^ (h + 1) ∧ s.contains true = false then 1 else
      (List.range (m + 1)).foldl (fun x k => min x (a.getD k 100 + b.getD (m - k) 100)) 100
theorem tab_eq : ∀ (h : Nat) (s : List Bool) (m : Nat), (tab h s).getD m 100 = fws h s m
  | 0, s, m => by
    match m with
    | 0 => rfl
    | 1 => simp only [tab, fws]; cases s.contains true <;> rfl
    | m + 2 => simp [tab, fws]
  | h + 1, s, m => by
    have ih := tab_eq h
    unfold tab fws
    simp only [ih]
    by_cases hm : m < 2 ^ (h + 1) + 1
    · have e : ((List.range (2 ^ (h + 1) + 1)).map fun m => if m = 0 then 0 else if m = 2 ^ (h + 1) ∧ s.contains true = false then 1 else (List.range (m + 1)).foldl (fun x k => min x (fws h (s.take (2 ^ h)) k + fws h (s.drop (2 ^ h)) (m - k))) 100).getD m 100 = if m = 0 then 0 else if m = 2 ^ (h + 1) ∧ s.contains true = false then 1 else (List.range (m + 1)).foldl (fun x k => min x (fws h (s.take (2 ^ h)) k + fws h (s.drop (2 ^ h)) (m - k))) 100 := by
        rw [List.getD, List.getElem?_map, List.getElem?_range hm]; rfl
      rw [e, if_neg (show ¬ 2 ^ (h + 1) < m by omega)]
    · have hp := Nat.two_pow_pos (h + 1)
      rw [List.getD, List.getElem?_eq_none (by rw [List.length_map, List.length_range]; omega)]
      rw [if_neg (show ¬ m = 0 by intro e; subst e; exact hm (Nat.succ_pos _)), if_pos (show 2 ^ (h + 1) < m from Nat.lt_of_succ_le (Nat.not_lt.1 hm))]
      rfl
def allL : Nat → List (List Bool)
  | 0 => [[]]
  | n + 1 => (allL n).flatMap fun l => [false :: l, true :: l]
theorem mem_allL : ∀ (l : List Bool), l ∈ allL l.length
  | [] => by simp [allL]
  | b :: l => by
    have := mem_allL l
    simp only [List.length_cons, allL, List.mem_flatMap]
    refine ⟨l, this, ?_⟩
    cases b <;> simp
def covOK (d : Nat) : Bool := (allL (2 ^ d)).all fun s => (List.range (cnt s + 1)).all fun n => (cov d n s n).length == (tab d s).getD n 100
def oth (n a b : Nat) : List Bool := (List.range n).map fun i => decide (i < a) || decide (b ≤ i)
def nodOK (d : Nat) : Bool := (List.range (2 ^ d + 1)).all fun b => (List.range (b + 1)).all fun a => (nod d (2 ^ d) a b).length == (tab d (oth (2 ^ d) a b)).getD (b - a) 100
theorem covOK_all : ∀ d, d < 4 → covOK d = true := by decide +kernel
theorem nodOK_all : ∀ d, d < 4 → nodOK d = true := by decide +kernel
theorem cov_fewest {d n : Nat} {s : List Bool} (hd : d ≤ 3) (hl : s.length = 2 ^ d) (hn : n ≤ cnt s) : (cov d n s n).length = fws d s n := by
  have h := covOK_all d (by omega)
  unfold covOK at h
  have h1 := List.all_eq_true.1 h s (by rw [← hl]; exact mem_allL s)
  have h2 := List.all_eq_true.1 h1 n (List.mem_range.2 (by omega))
  rw [← tab_eq]
  simpa using h2
theorem nod_fewest {d a b : Nat} (hd : d ≤ 3) (hab : a ≤ b) (hb : b ≤ 2 ^ d) : (nod d (2 ^ d) a b).length = fws d (oth (2 ^ d) a b) (b - a) := by
  have h := nodOK_all d (by omega)
  unfold nodOK at h
  have h1 := List.all_eq_true.1 h b (List.mem_range.2 (by omega))
  have h2 := List.all_eq_true.1 h1 a (List.mem_range.2 (by omega))
  rw [← tab_eq]
  simpa using h2

/-! #### halves -/
theorem free_desc {s : List Bool} {d l i : Nat} (hl : l < d) (h : freeN s d l i = true) (hle : i * sz d l + sz d l ≤ s.length) : freeN s d (l + 1) (2 * i) = true := by
  have hs := sz_half hl
  have e : seg s (2 * i * sz d (l + 1)) (sz d (l + 1)) = (seg s (i * sz d l) (sz d l)).take (sz d (l + 1)) := by
    unfold seg
    rw [List.take_take, Nat.min_eq_left (by omega), hs, show i * (2 * sz d (l + 1)) = 2 * i * sz d (l + 1) by rw [← Nat.mul_assoc, Nat.mul_comm i 2]]
  unfold freeN
  rw [e, free_seg h hle, List.take_replicate]
  simp
theorem gLvl_some {s : List Bool} {d most l i : Nat} (hs : sz d l ≤ most) (hi : i < 2 ^ l) (h : freeN s d l i = true) : ∃ j, gLvl s d most l = some j := by
  unfold gLvl
  rw [if_pos hs]
  cases e : (List.range (2 ^ l)).find? (freeN s d l) with
  | some j => exact ⟨j, rfl⟩
  | none => exact absurd h (by simpa using List.find?_eq_none.1 e i (List.mem_range.2 hi))
/-- Where a level is passed over, no node of it serves. -/
theorem greatest_first {s : List Bool} {d most l i : Nat} (h : greatest s d most = some (l, i)) : gLvl s d most l = some i ∧ ∀ k, k < l → gLvl s d most k = none := by
  unfold greatest at h
  have key : ∀ n, (List.range n).findSome? (fun l => (gLvl s d most l).map fun i => (l, i)) = some (l, i) → gLvl s d most l = some i ∧ ∀ k, k < l → gLvl s d most k = none := by
    intro n
    induction n with
    | zero => intro h; simp at h
    | succ n ih =>
      intro h
      rw [List.range_succ, List.findSome?_append] at h
      cases e : (List.range n).findSome? (fun l => (gLvl s d most l).map fun i => (l, i)) with
      | some p => rw [e] at h; simp only [Option.some_or] at h; rw [h] at e; exact ih e
      | none =>
        rw [e] at h
        simp at h
        obtain ⟨h1, h2⟩ := h
        subst h2
        refine ⟨h1, fun k hk => ?_⟩
        have := findSome_range.1 e k hk
        simpa using this
  exact key _ h
theorem free_count {s : List Bool} {d l i : Nat} (h : freeN s d l i = true) (hl : i * sz d l + sz d l ≤ s.length) : sz d l ≤ cnt s := by
  have := cnt_mark h hl
  omega
theorem free_down {s : List Bool} {d : Nat} : ∀ (k : Nat) {l i : Nat}, l + k ≤ d → i < 2 ^ l → s.length = 2 ^ d → freeN s d l i = true → ∃ j, j < 2 ^ (l + k) ∧ freeN s d (l + k) j = true
  | 0, l, i, _, hi, _, h => ⟨i, hi, h⟩
  | k + 1, l, i, hk, hi, hl, h => by
    have h1 := free_desc (by omega) h (by rw [hl]; exact node_end' (by omega) hi)
    obtain ⟨j, hj, hf⟩ := free_down k (l := l + 1) (i := 2 * i) (by omega) (by rw [Nat.pow_succ]; omega) hl h1
    exact ⟨j, by rwa [show l + (k + 1) = l + 1 + k by omega], by rwa [show l + (k + 1) = l + 1 + k by omega]⟩
theorem sz_anti {d a b : Nat} (h : a ≤ b) : sz d b ≤ sz d a := Nat.pow_le_pow_right (by decide) (by omega)
theorem sz_strict {d a b : Nat} (h : a < b) (hb : b ≤ d) : 2 * sz d b ≤ sz d a := by
  have := sz_half (d := d) (l := a) (by omega)
  have := sz_anti (d := d) (a := a + 1) (b := b) (by omega)
  omega
/-- Twice as many leaves do not fit, or no free node has so many. -/
theorem halves {s : List Bool} {d n m l i L I : Nat} (hl : s.length = 2 ^ d) (h1 : greatest s d n = some (l, i)) (h2 : greatest s d m = some (L, I)) (h3 : 2 * sz d l ≤ n) : sz d L ≤ sz d l := by
  obtain ⟨a1, a2, a3, a4⟩ := greatest_spec h1
  obtain ⟨b1, b2, b3, b4⟩ := greatest_spec h2
  rcases Nat.lt_or_ge L l with h | h
  · exfalso
    obtain ⟨j, hj, hf⟩ := free_down (l - 1 - L) (l := L) (i := I) (by omega) b2 hl b4
    rw [show L + (l - 1 - L) = l - 1 by omega] at hj hf
    have hs := sz_half (d := d) (l := l - 1) (by omega)
    rw [show l - 1 + 1 = l by omega] at hs
    obtain ⟨q, hq⟩ := gLvl_some (most := n) (by omega) hj hf
    have := (greatest_first h1).2 (l - 1) (by omega)
    rw [hq] at this
    cases this
  · exact sz_anti h
/-- With all free leaves to be covered, the first is the largest of all. -/
theorem halves_all {s : List Bool} {d m : Nat} (hl : s.length = 2 ^ d) (hm : 2 ^ d ≤ m) : greatest s d (cnt s) = greatest s d m := by
  have e : ∀ l, l ≤ d → gLvl s d (cnt s) l = gLvl s d m l := by
    intro l hld
    unfold gLvl
    rw [if_pos (show sz d l ≤ m from Nat.le_trans sz_le hm)]
    split
    · rfl
    · rename_i h
      symm
      rw [List.find?_eq_none]
      intro i hi
      have hi := List.mem_range.1 hi
      intro hf
      exact h (free_count hf (by rw [hl]; exact node_end' hld hi))
  unfold greatest
  have : ∀ (n : Nat), n ≤ d + 1 → (List.range n).findSome? (fun l => (gLvl s d (cnt s) l).map fun i => (l, i)) = (List.range n).findSome? (fun l => (gLvl s d m l).map fun i => (l, i)) := by
    intro n
    induction n with
    | zero => intro _; rfl
    | succ n ih =>
      intro hn
      rw [List.range_succ, List.findSome?_append, List.findSome?_append, ih (by omega)]
      simp [e n (by omega)]
  exact this _ (Nat.le_refl _)
end Go.Proofs.YtkmpiamfgmdihaaDoor
