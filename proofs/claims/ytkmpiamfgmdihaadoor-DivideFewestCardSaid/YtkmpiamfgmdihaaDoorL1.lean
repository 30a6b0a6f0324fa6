/-
  The tree of the leaves of a coin, in plain words. No program in sight.
-/
import Derived.Test.YtkmpiamfgmdihaaDoorFw12
namespace Go.Proofs.YtkmpiamfgmdihaaDoor
set_option maxRecDepth 20000
set_option linter.unusedSimpArgs false
set_option linter.unusedVariables false
open Go Go.Fw
/-- The number of leaves of a node. -/
def sz (d l : Nat) : Nat := 2 ^ (d - l)
theorem sz_pos (d l : Nat) : 1 ≤ sz d l := Nat.one_le_two_pow
theorem sz_le {d l : Nat} : sz d l ≤ 2 ^ d := Nat.pow_le_pow_right (by decide) (by omega)
theorem sz_mul {d l : Nat} (h : l ≤ d) : 2 ^ l * sz d l = 2 ^ d := by unfold sz; rw [← Nat.pow_add]; congr 1; omega
theorem node_end {d l i : Nat} (h : l ≤ d) (hi : i < 2 ^ l) : (i + 1) * sz d l ≤ 2 ^ d := by rw [← sz_mul h]; exact Nat.mul_le_mul_right _ hi
theorem node_end' {d l i : Nat} (h : l ≤ d) (hi : i < 2 ^ l) : i * sz d l + sz d l ≤ 2 ^ d := by have := node_end h hi; rwa [Nat.add_mul, Nat.one_mul] at this
/-- The number of free leaves. -/
def cnt (s : List Bool) : Nat := s.count false
def seg (s : List Bool) (a n : Nat) : List Bool := (s.drop a).take n
theorem seg_length {s : List Bool} {a n : Nat} (h : a + n ≤ s.length) : (seg s a n).length = n := by simp [seg]; omega
def freeN (s : List Bool) (d l i : Nat) : Bool := !(seg s (i * sz d l) (sz d l)).contains true
/-- The first free node of a level. -/
def gLvl (s : List Bool) (d most l : Nat) : Option Nat := if sz d l ≤ most then (List.range (2 ^ l)).find? (freeN s d l) else none
def greatest (s : List Bool) (d most : Nat) : Option (Nat × Nat) := (List.range (d + 1)).findSome? fun l => (gLvl s d most l).map fun i => (l, i)
theorem find_range {p : Nat → Bool} {n i : Nat} (hi : i < n) (hp : p i = true) (hno : ∀ j, j < i → p j = false) : (List.range n).find? p = some i := by
  rw [List.find?_eq_some_iff_append]
  refine ⟨hp, List.range i, (List.range (n - i - 1)).map (· + (i + 1)), ?_, ?_⟩
  · apply List.ext_getElem
    · simp; omega
    · intro k h1 h2
      simp only [List.length_range] at h1
      by_cases hk : k < i
      · rw [List.getElem_append_left (by simpa using hk)]; simp
      · by_cases e : k = i
        · subst e; simp
        · rw [List.getElem_append_right (by simp; omega)]
          simp only [List.length_range, List.getElem_range]
          rw [List.getElem_cons]
          rw [dif_neg (by omega)]
          simp; omega
  · intro a ha
    simp only [List.mem_range] at ha
    simp [hno a ha]
theorem find_range_none {p : Nat → Bool} {n : Nat} (hno : ∀ j, j < n → p j = false) : (List.range n).find? p = none := by
  rw [List.find?_eq_none]
  intro x hx
  simp [hno x (List.mem_range.1 hx)]
theorem findSome_range {β : Type} {f : Nat → Option β} : ∀ {n : Nat}, (List.range n).findSome? f = none ↔ ∀ j, j < n → f j = none
  | 0 => by simp
  | n + 1 => by
    rw [List.range_succ, List.findSome?_append, Option.or_eq_none_iff, findSome_range (n := n)]
    constructor
    · rintro ⟨h1, h2⟩ j hj
      by_cases e : j = n
      · subst e; simpa using h2
      · exact h1 j (by omega)
    · intro h
      exact ⟨fun j hj => h j (by omega), by simpa using h n (by omega)⟩
theorem findSome_first {β : Type} {f : Nat → Option β} {n i : Nat} {b : β} (hi : i < n) (hp : f i = some b) (hno : ∀ j, j < i → f j = none) : (List.range n).findSome? f = some b := by
  induction n with
  | zero => omega
  | succ n ih =>
    rw [List.range_succ, List.findSome?_append]
    by_cases e : i = n
    · subst e
      rw [findSome_range.2 hno]
      simp [hp]
    · rw [ih (by omega)]
      rfl
theorem greatest_some {s : List Bool} {d most l i : Nat} (hl : l ≤ d) (hg : gLvl s d most l = some i) (hno : ∀ k, k < l → gLvl s d most k = none) : greatest s d most = some (l, i) :=
  findSome_first (i := l) (by omega) (by rw [hg]; rfl) fun j hj => by rw [hno j hj]; rfl
theorem greatest_none {s : List Bool} {d most : Nat} (hno : ∀ k, k ≤ d → gLvl s d most k = none) : greatest s d most = none :=
  findSome_range.2 fun j hj => by rw [hno j (by omega)]; rfl
theorem greatest_spec {s : List Bool} {d most l i : Nat} (h : greatest s d most = some (l, i)) : l ≤ d ∧ i < 2 ^ l ∧ sz d l ≤ most ∧ freeN s d l i = true := by
  unfold greatest at h
  obtain ⟨k, hk, h2⟩ := List.exists_of_findSome?_eq_some h
  have hk := List.mem_range.1 hk
  obtain ⟨j, hj, e⟩ := Option.map_eq_some_iff.1 h2
  simp only [Prod.mk.injEq] at e
  obtain ⟨rfl, rfl⟩ := e
  unfold gLvl at hj
  split at hj
  · rename_i hs
    have := List.find?_some hj
    have hm := List.mem_of_find?_eq_some hj
    exact ⟨by omega, List.mem_range.1 hm, hs, this⟩
  · cases hj
/-- The state in which a node is spent. -/
def setR (s : List Bool) (a n : Nat) : List Bool := s.take a ++ List.replicate n true ++ s.drop (a + n)
theorem setR_length {s : List Bool} {a n : Nat} (h : a + n ≤ s.length) : (setR s a n).length = s.length := by simp [setR]; omega
theorem setR_zero (s : List Bool) (a : Nat) : setR s a 0 = s := by simp [setR]
theorem setR_step {s : List Bool} {a n : Nat} (h : a + n < s.length) : (setR s a n).set (a + n) true = setR s a (n + 1) := by
  unfold setR
  have hl : (s.take a ++ List.replicate n true).length = a + n := by simp; omega
  rw [List.set_append_right _ _ (by omega), hl, Nat.sub_self, List.drop_eq_getElem_cons h, List.set_cons_zero, List.replicate_succ', ← Nat.add_assoc]
  simp
def markN (s : List Bool) (d l i : Nat) : List Bool := setR s (i * sz d l) (sz d l)
theorem seg_split (s : List Bool) (a n : Nat) : s = s.take a ++ seg s a n ++ s.drop (a + n) := by
  unfold seg
  rw [List.append_assoc, ← List.drop_drop, List.take_append_drop, List.take_append_drop]
theorem free_seg {s : List Bool} {d l i : Nat} (h : freeN s d l i = true) (hl : i * sz d l + sz d l ≤ s.length) : seg s (i * sz d l) (sz d l) = List.replicate (sz d l) false := by
  rw [List.eq_replicate_iff]
  refine ⟨seg_length hl, fun b hb => ?_⟩
  cases b with
  | false => rfl
  | true =>
    unfold freeN at h
    simp at h
    exact absurd hb h
theorem cnt_mark {s : List Bool} {d l i : Nat} (h : freeN s d l i = true) (hl : i * sz d l + sz d l ≤ s.length) : cnt (markN s d l i) + sz d l = cnt s := by
  have e := seg_split s (i * sz d l) (sz d l)
  rw [free_seg h hl] at e
  have e2 : cnt s = cnt (s.take (i * sz d l) ++ List.replicate (sz d l) false ++ s.drop (i * sz d l + sz d l)) := by rw [← e]
  rw [e2]
  unfold cnt markN setR
  simp only [List.count_append]
  rw [List.count_replicate_self, List.count_replicate]
  simp
  omega
theorem leaf_free {s : List Bool} {d : Nat} (hl : s.length = 2 ^ d) (hc : 0 < cnt s) : ∃ i, i < 2 ^ d ∧ freeN s d d i = true := by
  obtain ⟨i, hi, e⟩ := List.mem_iff_getElem.1 (List.count_pos_iff.1 hc)
  refine ⟨i, by omega, ?_⟩
  have h1 : sz d d = 1 := by unfold sz; rw [Nat.sub_self]
  unfold freeN seg
  rw [h1, Nat.mul_one, List.drop_eq_getElem_cons hi, e]
  simp
theorem greatest_exists {s : List Bool} {d n : Nat} (hl : s.length = 2 ^ d) (h0 : 0 < n) (hn : n ≤ cnt s) : ∃ l i, greatest s d n = some (l, i) := by
  cases h : greatest s d n with
  | some p => exact ⟨p.1, p.2, rfl⟩
  | none =>
    exfalso
    have := findSome_range.1 h d (by omega)
    obtain ⟨i, hi, hf⟩ := leaf_free hl (by omega)
    have h1 : sz d d = 1 := by unfold sz; rw [Nat.sub_self]
    unfold gLvl at this
    rw [if_pos (by omega)] at this
    simp only [Option.map_eq_none_iff, List.find?_eq_none, List.mem_range] at this
    exact this i hi hf
/-- The cover of so many free leaves. -/
def cov (d : Nat) : Nat → List Bool → Nat → List (Nat × Nat)
  | 0, _, _ => []
  | f + 1, s, n => if n = 0 then [] else match greatest s d n with
    | none => []
    | some (l, i) => (l, i) :: cov d f (markN s d l i) (n - sz d l)
theorem cov_zero (d f : Nat) (s : List Bool) : cov d f s 0 = [] := by cases f <;> simp [cov]
theorem cov_succ {d f : Nat} {s : List Bool} {n l i : Nat} (hn : 0 < n) (h : greatest s d n = some (l, i)) : cov d (f + 1) s n = (l, i) :: cov d f (markN s d l i) (n - sz d l) := by
  simp only [cov]
  rw [if_neg (by omega), h]
theorem mark_length {s : List Bool} {d l i : Nat} (hl : s.length = 2 ^ d) (h : l ≤ d) (hi : i < 2 ^ l) : (markN s d l i).length = 2 ^ d := by
  have := node_end' h hi
  unfold markN
  rw [setR_length (by omega), hl]
end Go.Proofs.YtkmpiamfgmdihaaDoor
