/-
  Trees of digests, in plain words. No program in sight.
-/
import Derived.Test.YtckohecddaacnaaDoorW8
namespace Go.Proofs.YtckohecddaacnaaDoor
set_option maxRecDepth 20000
set_option linter.unusedSimpArgs false
set_option linter.unusedVariables false
open Go Go.Fw
def tagd (t p : List Int) : List Int := sha (sha t ++ sha t ++ p)
theorem tagd_length (t p : List Int) : (tagd t p).length = 32 := by unfold tagd; exact sha_length _
theorem isB_tagd (t p : List Int) : isB (tagd t p) := isB_sha _
/-- A digest. -/
structure HS where
  l : List Int
  hl : l.length = 32
  hb : isB l
theorem HS.ext {x y : HS} (h : x.l = y.l) : x = y := by cases x; cases y; cases h; rfl
instance : DecidableEq HS := fun x y => if h : x.l = y.l then .isTrue (HS.ext h) else .isFalse fun e => h (by rw [e])
abbrev HS.enc (x : HS) : List Value := flat (eK .u8) x.l
theorem HS.enc_length (x : HS) : x.enc.length = 32 := by unfold HS.enc; rw [flatK_length, x.hl]
def hsha (t p : List Int) : HS := ⟨tagd t p, tagd_length t p, isB_tagd t p⟩
/-- The tags, in bytes. -/
def nodeT : List Int := [115, 112, 101, 99, 105, 101, 47, 110, 111, 100, 101]
def leafT : List Int := [115, 112, 101, 99, 105, 101, 47, 108, 101, 97, 102]
def inn (x y : HS) : HS := hsha nodeT (x.l ++ y.l)
def leafH (p : List Int) : HS := hsha leafT p
def zeroH : HS := ⟨List.replicate 32 0, rfl, .of fun x hx => by rw [List.eq_of_mem_replicate hx]; decide⟩
/-- The node of so many levels above the leaves. -/
def nd (f : Nat → HS) : Nat → Nat → HS
  | 0, i => f i
  | j + 1, i => inn (nd f j (2 * i)) (nd f j (2 * i + 1))
def rowN (f : Nat → HS) (n j : Nat) : List HS := (List.range n).map (nd f j)
theorem rowN_length {f : Nat → HS} {n j : Nat} : (rowN f n j).length = n := by unfold rowN; rw [List.length_map, List.length_range]
theorem rowN_get {f : Nat → HS} {n j i : Nat} (h : i < n) : (rowN f n j)[i]'(by rw [rowN_length]; exact h) = nd f j i := by
  unfold rowN; rw [List.getElem_map, List.getElem_range]
theorem rowN_succ {f : Nat → HS} {n j : Nat} : rowN f (n + 1) j = rowN f n j ++ [nd f j n] := by unfold rowN; rw [List.range_succ, List.map_append]; rfl
def at_ (l : List HS) (i : Nat) : HS := l.getD i zeroH
theorem rowN_leaves {l : List HS} : rowN (at_ l) l.length 0 = l := by
  apply List.ext_getElem
  · exact rowN_length
  · intro i h1 h2
    rw [rowN_get (by rw [rowN_length] at h1; exact h1)]
    simp [nd, at_, List.getD, List.getElem?_eq_getElem h2]
/-- What lies below a node is all that it depends on. -/
theorem nd_shift {f g : Nat → HS} {a : Nat} : ∀ (j i : Nat), (∀ x, x < 2 ^ j * (i + 1) → g x = f (x + a * 2 ^ j)) → nd g j i = nd f j (i + a)
  | 0, i, h => by
    have := h i (by omega)
    simpa [nd] using this
  | j + 1, i, h => by
    have key : ∀ k, k ≤ 2 * i + 1 → nd g j k = nd f j (k + 2 * a) := fun k hk => nd_shift j k fun x hx => by
      rw [h x ?_, Nat.pow_succ]
      · congr 1
        rw [Nat.mul_comm (2 ^ j) 2, ← Nat.mul_assoc, Nat.mul_comm a 2]
      · refine Nat.lt_of_lt_of_le hx ?_
        rw [Nat.pow_succ, Nat.mul_assoc]
        exact Nat.mul_le_mul_left _ (by omega)
    simp only [nd]
    rw [key (2 * i) (by omega), key (2 * i + 1) (by omega)]
    congr 2 <;> omega
theorem nd_part {l : List HS} {j i n : Nat} (hn : n = 2 ^ j) (h : i * n + n ≤ l.length) : nd (at_ ((l.drop (i * n)).take n)) j 0 = nd (at_ l) j i := by
  have := nd_shift (f := at_ l) (g := at_ ((l.drop (i * n)).take n)) (a := i) j 0 fun x hx => by
    rw [← hn] at hx ⊢
    unfold at_
    simp only [List.getD]
    rw [List.getElem?_take, if_pos (by omega), List.getElem?_drop, Nat.add_comm]
  rw [this, Nat.zero_add]
/-- The path of a node: of so many levels. -/
def sib (i : Nat) : Nat := if i % 2 = 0 then i + 1 else i - 1
def pth (f : Nat → HS) : Nat → Nat → Nat → List HS
  | _, 0, _ => []
  | j, k + 1, i => nd f j (sib i) :: pth f (j + 1) k (i / 2)
theorem pth_length (f : Nat → HS) : ∀ (j k i : Nat), (pth f j k i).length = k
  | _, 0, _ => rfl
  | j, k + 1, i => by simp [pth, pth_length f (j + 1) k]
/-- Where a path leads. -/
def fol : Nat → HS → List HS → HS
  | _, h, [] => h
  | i, h, x :: r => fol (i / 2) (if i % 2 = 0 then inn h x else inn x h) r
theorem fol_pth (f : Nat → HS) : ∀ (j k i : Nat), i < 2 ^ k → fol i (nd f j i) (pth f j k i) = nd f (j + k) 0
  | j, 0, i, h => by
    have : i = 0 := by simpa using h
    subst this
    rfl
  | j, k + 1, i, h => by
    have hi : i / 2 < 2 ^ k := by rw [Nat.pow_succ] at h; omega
    have ih := fol_pth f (j + 1) k (i / 2) hi
    rw [show j + 1 + k = j + (k + 1) by omega] at ih
    rw [← ih]
    simp only [pth, fol]
    congr 1
    simp only [nd]
    by_cases he : i % 2 = 0
    · rw [if_pos he, sib, if_pos he, show 2 * (i / 2) = i by omega]
    · rw [if_neg he, sib, if_neg he, show i - 1 = 2 * (i / 2) by omega, show 2 * (i / 2) + 1 = i by omega]
theorem pth_child0 (f : Nat → HS) (j k i : Nat) : pth f j (k + 1) (2 * i) = nd f j (2 * i + 1) :: pth f (j + 1) k i := by
  simp only [pth, sib]
  rw [if_pos (by omega), show 2 * i / 2 = i by omega]
theorem pth_child1 (f : Nat → HS) (j k i : Nat) : pth f j (k + 1) (2 * i + 1) = nd f j (2 * i) :: pth f (j + 1) k i := by
  simp only [pth, sib]
  rw [if_neg (by omega), show (2 * i + 1) / 2 = i by omega, show 2 * i + 1 - 1 = 2 * i by omega]
end Go.Proofs.YtckohecddaacnaaDoor
