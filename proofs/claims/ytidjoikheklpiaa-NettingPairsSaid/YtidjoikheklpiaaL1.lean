/-
  Netting in plain words: claims and transfers, positions. No program in sight.
-/
import Derived.Test.YtidjoikheklpiaaTy
namespace Go.Proofs.Ytidjoikheklpiaa
set_option maxRecDepth 20000
set_option linter.unusedSimpArgs false
set_option linter.unusedVariables false
open Go Go.Fw

/-- A claim, or a transfer: from, to, amount. -/
structure C3 where
  f : Int
  t : Int
  a : Int
  deriving DecidableEq
abbrev C3.enc (e : C3) : List Value := [.int .i64 e.f, .int .i64 e.t, .int .i64 e.a]
theorem C3.enc_length (e : C3) : e.enc.length = 3 := rfl
theorem C3.ones (e : C3) : Fw.ones e.enc = true := rfl
def C3.row (e : C3) : List Int := [e.f, e.t, e.a]
theorem C3.enc_row (e : C3) : e.enc = ints e.row := rfl
theorem C3.row_inj {x y : C3} : x.row = y.row → x = y := by
  intro h
  obtain ⟨a, b, c⟩ := x
  obtain ⟨a', b', c'⟩ := y
  simp only [C3.row, List.cons.injEq] at h
  obtain ⟨rfl, rfl, rfl, _⟩ := h
  rfl

/-- Valid for n banks, the amount at most m. -/
def okC (n m : Int) (c : C3) : Bool := decide (0 ≤ c.f ∧ c.f < n ∧ 0 ≤ c.t ∧ c.t < n ∧ c.f ≠ c.t ∧ 1 ≤ c.a ∧ c.a ≤ m)
theorem okC_spec {n m : Int} {c : C3} (h : okC n m c = true) : 0 ≤ c.f ∧ c.f < n ∧ 0 ≤ c.t ∧ c.t < n ∧ c.f ≠ c.t ∧ 1 ≤ c.a ∧ c.a ≤ m := of_decide_eq_true h

def claimsB (n : Int) (l : List C3) : Bool := decide (1 ≤ n ∧ n ≤ 8 ∧ l.length ≤ 1000) && l.all (okC n 1099511627776)
theorem claimsB_spec {n : Int} {l : List C3} (h : claimsB n l = true) : 1 ≤ n ∧ n ≤ 8 ∧ l.length ≤ 1000 ∧ ∀ x ∈ l, okC n 1099511627776 x = true := by
  simp only [claimsB, Bool.and_eq_true, decide_eq_true_eq, List.all_eq_true] at h
  exact ⟨h.1.1, h.1.2.1, h.1.2.2, h.2⟩

def smallB (x : Int) : Bool := decide (-1125899906842624 ≤ x ∧ x ≤ 1125899906842624)
/-- Valid positions. -/
def posB (p : List Int) : Bool := decide (1 ≤ p.length ∧ p.length ≤ 8 ∧ p.sum = 0) && p.all smallB
theorem posB_spec {p : List Int} (h : posB p = true) : 1 ≤ p.length ∧ p.length ≤ 8 ∧ p.sum = 0 ∧ ∀ x ∈ p, -1125899906842624 ≤ x ∧ x ≤ 1125899906842624 := by
  simp only [posB, Bool.and_eq_true, decide_eq_true_eq, List.all_eq_true, smallB] at h
  exact ⟨h.1.1, h.1.2.1, h.1.2.2, fun x hx => h.2 x hx⟩

/-- Small numbers, few of them: the sum is small. -/
theorem sum_small {p : List Int} (h : ∀ x ∈ p, -1125899906842624 ≤ x ∧ x ≤ 1125899906842624) : -(1125899906842624 * (p.length : Int)) ≤ p.sum ∧ p.sum ≤ 1125899906842624 * (p.length : Int) := by
  induction p with
  | nil => simp
  | cons x p ih =>
    have h1 := h x (by simp)
    have h2 := ih fun y hy => h y (by simp [hy])
    simp only [List.sum_cons, List.length_cons]
    omega
theorem all_take_step {p : List Int} {q : Int → Bool} {k : Nat} (hk : k < p.length) (h : (p.take k).all q = true) (hx : q p[k] = true) : (p.take (k + 1)).all q = true := by
  rw [List.take_succ_eq_append_getElem hk, List.all_append, h]
  simp [hx]
theorem not_all_at {α : Type} {p : List α} {q : α → Bool} {k : Nat} (hk : k < p.length) (hx : q p[k] = false) : p.all q = false := by
  rw [List.all_eq_false]
  exact ⟨p[k], List.getElem_mem hk, by simp [hx]⟩
theorem all_step {α : Type} {p : List α} {q : α → Bool} {k : Nat} (hk : k < p.length) (h : (p.take k).all q = true) (hx : q p[k] = true) : (p.take (k + 1)).all q = true := by
  rw [List.take_succ_eq_append_getElem hk, List.all_append, h]
  simp [hx]

/-- What a claim moves to a bank. -/
def mvC (i : Int) (c : C3) : Int := if i = c.t then c.a else if i = c.f then -c.a else 0
/-- The position of a bank. -/
def posOf (i : Int) (l : List C3) : Int := (l.map (mvC i)).sum
/-- All positions. -/
def posAll (n : Nat) (l : List C3) : List Int := (List.range n).map fun (i : Nat) => posOf (i : Int) l
theorem posOf_snoc (i : Int) (l : List C3) (c : C3) : posOf i (l ++ [c]) = posOf i l + mvC i c := by simp [posOf]
theorem posAll_length (n : Nat) (l : List C3) : (posAll n l).length = n := by simp [posAll]
theorem posAll_get {n : Nat} {l : List C3} {i : Nat} (h : i < n) : (posAll n l).getD i 0 = posOf i l := by simp [posAll, List.getD, h]
theorem posOf_small {n : Int} {l : List C3} (h : ∀ x ∈ l, okC n 1099511627776 x = true) (i : Int) : -(1099511627776 * (l.length : Int)) ≤ posOf i l ∧ posOf i l ≤ 1099511627776 * (l.length : Int) := by
  induction l with
  | nil => simp [posOf]
  | cons c l ih =>
    have h1 := okC_spec (h c (by simp))
    have h2 := ih fun y hy => h y (by simp [hy])
    have h3 : posOf i (c :: l) = mvC i c + posOf i l := by simp [posOf]
    have h4 : -1099511627776 ≤ mvC i c ∧ mvC i c ≤ 1099511627776 := by
      unfold mvC
      split
      · omega
      · split <;> omega
    simp only [List.length_cons]
    rw [h3]
    omega
theorem getD_set (l : List Int) (i k : Nat) (v : Int) : (l.set i v).getD k 0 = if i = k ∧ i < l.length then v else l.getD k 0 := by
  simp only [List.getD, List.getElem?_set]
  by_cases h : i = k
  · subst h
    by_cases h2 : i < l.length
    · simp [h2]
    · simp [h2]
  · simp [h]
theorem ext_getD {l m : List Int} (hl : l.length = m.length) (h : ∀ i, i < l.length → l.getD i 0 = m.getD i 0) : l = m := by
  apply List.ext_getElem hl
  intro i h1 h2
  have := h i h1
  simpa [List.getD, h1, h2] using this
theorem getD_in {l : List Int} {k : Nat} (h : k < l.length) : l.getD k 0 = l[k] := by simp [List.getD, h]
/-- One claim is booked. -/
def book (p : List Int) (c : C3) : List Int :=
  let q := p.set c.f.toNat (p.getD c.f.toNat 0 - c.a)
  q.set c.t.toNat (q.getD c.t.toNat 0 + c.a)
theorem book_length (p : List Int) (c : C3) : (book p c).length = p.length := by simp [book]
theorem book_get {n m : Int} {p : List Int} {c : C3} (h : okC n m c = true) (hn : (p.length : Int) = n) (i : Nat) : (book p c).getD i 0 = p.getD i 0 + mvC i c := by
  have hx := okC_spec h
  unfold book mvC
  have h1 : c.f.toNat < p.length := by omega
  have h2 : c.t.toNat < p.length := by omega
  have h4 : ¬ (c.f.toNat = c.t.toNat) := by omega
  simp only [getD_set, List.length_set, h1, h2, and_true]
  rw [if_neg h4]
  by_cases e1 : c.t.toNat = i
  · have : (i : Int) = c.t := by omega
    rw [if_pos e1, if_pos this, e1]
  · have : ¬ (i : Int) = c.t := by omega
    rw [if_neg e1, if_neg this]
    by_cases e2 : c.f.toNat = i
    · have h3 : (i : Int) = c.f := by omega
      rw [if_pos e2, if_pos h3, e2]
      omega
    · have h3 : ¬ (i : Int) = c.f := by omega
      rw [if_neg e2, if_neg h3]
      omega
theorem book_posAll {n : Nat} {m : Int} {l : List C3} {c : C3} (h : okC n m c = true) : book (posAll n l) c = posAll n (l ++ [c]) := by
  refine ext_getD (by rw [book_length, posAll_length, posAll_length]) fun i hi => ?_
  rw [book_length, posAll_length] at hi
  rw [book_get h (by rw [posAll_length]), posAll_get hi, posAll_get hi, posOf_snoc]

def total (l : List C3) : Int := (l.map C3.a).sum
theorem total_snoc (l : List C3) (c : C3) : total (l ++ [c]) = total l + c.a := by simp [total]
theorem total_small {n m : Int} {l : List C3} (h : ∀ x ∈ l, okC n m x = true) : 0 ≤ total l ∧ total l ≤ m * (l.length : Int) := by
  induction l with
  | nil => simp [total]
  | cons c l ih =>
    have h1 := okC_spec (h c (by simp))
    have h2 := ih fun y hy => h y (by simp [hy])
    have h3 : total (c :: l) = c.a + total l := by simp [total]
    rw [h3, List.length_cons]
    have : m * ((l.length + 1 : Nat) : Int) = m * (l.length : Int) + m := by
      rw [Int.natCast_add, Int.mul_add]; simp
    omega
end Go.Proofs.Ytidjoikheklpiaa
