/-
  Journals, in plain words. No program in sight.
-/
import Derived.Test.YtelidojkpbaofaaDoorWA
namespace Go.Proofs.YtelidojkpbaofaaDoor
set_option maxRecDepth 20000
set_option linter.unusedSimpArgs false
set_option linter.unusedVariables false
open Go Go.Fw
def be4 (n : Nat) : List Int := [((n / 16777216 % 256 : Nat) : Int), ((n / 65536 % 256 : Nat) : Int), ((n / 256 % 256 : Nat) : Int), ((n % 256 : Nat) : Int)]
theorem be4_length (n : Nat) : (be4 n).length = 4 := rfl
/-- The frame of a record. -/
def frB (b : List Int) : List Int := be4 b.length ++ (sha b ++ b)
theorem frB_length (b : List Int) : (frB b).length = 36 + b.length := by
  unfold frB
  rw [List.length_append, List.length_append, be4_length, sha_length]
  omega
/-- The number of four bytes. -/
def num4 (p : List Int) : Int := p.getD 0 0 * 16777216 + p.getD 1 0 * 65536 + p.getD 2 0 * 256 + p.getD 3 0
theorem num4_be4 {n : Nat} (h : n < 4294967296) (q : List Int) : num4 (be4 n ++ q) = n := by
  unfold num4 be4
  simp only [List.cons_append, List.getD_cons_zero, List.getD_cons_succ]
  omega
/-- The records. -/
def readL (p : List Int) : List (List Int) :=
  if h : 36 ≤ p.length ∧ num4 p ≤ 16384 ∧ 0 ≤ num4 p ∧ 36 + (num4 p).toNat ≤ p.length ∧ sha ((p.drop 36).take (num4 p).toNat) = (p.drop 4).take 32 then
    (p.drop 36).take (num4 p).toNat :: readL (p.drop (36 + (num4 p).toNat))
  else []
termination_by p.length
decreasing_by
  rw [List.length_drop]
  omega
theorem readL_step {p : List Int} (h1 : 36 ≤ p.length) (h2 : num4 p ≤ 16384) (h3 : 0 ≤ num4 p) (h4 : 36 + (num4 p).toNat ≤ p.length) (h5 : sha ((p.drop 36).take (num4 p).toNat) = (p.drop 4).take 32) :
    readL p = (p.drop 36).take (num4 p).toNat :: readL (p.drop (36 + (num4 p).toNat)) := by
  rw [readL, dif_pos ⟨h1, h2, h3, h4, h5⟩]
theorem readL_stop {p : List Int} (h : ¬ (36 ≤ p.length ∧ num4 p ≤ 16384 ∧ 0 ≤ num4 p ∧ 36 + (num4 p).toNat ≤ p.length ∧ sha ((p.drop 36).take (num4 p).toNat) = (p.drop 4).take 32)) : readL p = [] := by
  rw [readL, dif_neg h]
theorem num4_frame {b q : List Int} (hb : b.length ≤ 16384) : num4 (frB b ++ q) = b.length := by
  unfold frB
  rw [List.append_assoc, num4_be4 (by omega)]
theorem frame_drop36 (b q : List Int) : (frB b ++ q).drop 36 = b ++ q := by
  unfold frB
  have : be4 b.length ++ (sha b ++ b) ++ q = (be4 b.length ++ sha b) ++ (b ++ q) := by simp [List.append_assoc]
  rw [this]
  exact List.drop_left' (by rw [List.length_append, be4_length, sha_length])
theorem frame_hash (b q : List Int) : ((frB b ++ q).drop 4).take 32 = sha b := by
  unfold frB
  have : be4 b.length ++ (sha b ++ b) ++ q = be4 b.length ++ (sha b ++ (b ++ q)) := by simp [List.append_assoc]
  rw [this, List.drop_left' (be4_length _), List.take_left' (sha_length _)]
/-- A frame is read as its record. -/
theorem read_frame {b q : List Int} (hb : b.length ≤ 16384) : readL (frB b ++ q) = b :: readL q := by
  have hn := num4_frame (q := q) hb
  have hd := frame_drop36 b q
  have e : (b.length : Int).toNat = b.length := by omega
  rw [readL_step (by rw [List.length_append, frB_length]; omega) (by rw [hn]; omega) (by rw [hn]; omega) (by rw [hn, e, List.length_append, frB_length]; omega) (by rw [hn, e, hd, List.take_left, frame_hash]), hn, e, hd, List.take_left]
  congr 2
  have : (frB b ++ q).drop (36 + b.length) = q := List.drop_left' (by rw [frB_length])
  exact this
def framesB (L : List (List Int)) : List Int := L.flatMap frB
theorem framesB_nil : framesB [] = [] := rfl
theorem framesB_cons (b : List Int) (L : List (List Int)) : framesB (b :: L) = frB b ++ framesB L := rfl
theorem framesB_append (L K : List (List Int)) : framesB (L ++ K) = framesB L ++ framesB K := by simp [framesB]
theorem framesB_snoc (L : List (List Int)) (b : List Int) : framesB (L ++ [b]) = framesB L ++ frB b := by simp [framesB]
theorem read_frames {L : List (List Int)} (hL : ∀ b ∈ L, b.length ≤ 16384) (q : List Int) : readL (framesB L ++ q) = L ++ readL q := by
  induction L with
  | nil => rfl
  | cons b L ih =>
    rw [framesB_cons, List.append_assoc, read_frame (hL b (by simp)), ih fun x hx => hL x (by simp [hx])]
    rfl
/-- Of a frame that is cut, nothing is read. -/
theorem read_torn {b : List Int} {k : Nat} (hb : b.length ≤ 16384) (hk : k < 36 + b.length) : readL ((frB b).take k) = [] := by
  apply readL_stop
  rintro ⟨h1, _, _, h4, _⟩
  rw [List.length_take, frB_length] at h1 h4
  have e : num4 ((frB b).take k) = b.length := by
    have h36 : 36 ≤ k := by omega
    unfold num4
    have g : ∀ i, i < 4 → ((frB b).take k).getD i 0 = (frB b ++ []).getD i 0 := fun i hi => by
      rw [List.append_nil]
      simp only [List.getD]
      rw [List.getElem?_take, if_pos (by omega)]
    rw [g 0 (by omega), g 1 (by omega), g 2 (by omega), g 3 (by omega)]
    exact num4_frame hb
  rw [e] at h4
  omega
theorem readL_nil : readL [] = [] := readL_stop fun h => by simp at h
/-- A journal. -/
structure JV where
  by_ : List Int
  du : Int
  af : Int
def JV.zero : JV := ⟨[], 0, 0⟩
def validN (n : Nat) (du af : Int) : Prop := n ≤ 1048576 ∧ 0 ≤ du ∧ du ≤ n ∧ -1 ≤ af ∧ af ≤ 1099511627776
instance (n : Nat) (du af : Int) : Decidable (validN n du af) := by unfold validN; infer_instance
abbrev validJ (j : JV) : Prop := validN j.by_.length j.du j.af
def newJ (a : Int) : JV := ⟨[], 0, if a < 0 ∨ 1099511627776 < a then -1 else a⟩
/-- How many bytes are written, and what is left before a crash. -/
def wrN (af : Int) (n : Nat) : Nat := if af = -1 then n else if (n : Int) ≤ af then n else af.toNat
def wrA (af : Int) (n : Nat) : Int := if af = -1 then -1 else if (n : Int) ≤ af then af - n else 0
theorem wrN_le {af : Int} {n : Nat} (h : -1 ≤ af) : wrN af n ≤ n := by unfold wrN; split <;> (try split) <;> omega
def wrJ (j : JV) (p : List Int) : JV := ⟨j.by_ ++ p.take (wrN j.af p.length), j.du, wrA j.af p.length⟩
def appJ (j : JV) (b : List Int) : JV × Int :=
  if ¬ validJ j then (.zero, 1) else if 16384 < b.length ∨ 1048576 < j.by_.length + 36 + b.length then (.zero, 5)
  else (wrJ j (frB b), if wrN j.af (36 + b.length) < 36 + b.length then 19 else 0)
def syncJ (j : JV) : JV × Int :=
  if ¬ validJ j then (.zero, 1) else if j.af = 0 then (j, 19) else (⟨j.by_, j.by_.length, j.af⟩, 0)
def crashN (j : JV) (keep : Int) : Nat := (j.du + min keep (j.by_.length - j.du)).toNat
def crashJ (j : JV) (keep : Int) : JV × Int :=
  if ¬ validJ j then (.zero, 1) else if keep < 0 then (.zero, 2) else (⟨j.by_.take (crashN j keep), crashN j keep, -1⟩, 0)
def readJ (j : JV) : List (List Int) := if validJ j then readL j.by_ else []
/-- Too much for a journal, from some size on. -/
def fullL : Nat → List (List Int) → Bool
  | _, [] => false
  | s, b :: L => decide (16384 < b.length) || decide (1048576 < s + (36 + b.length)) || fullL (s + (36 + b.length)) L
def rewJ (j : JV) (L : List (List Int)) : JV × Int :=
  if ¬ validJ j then (.zero, 1) else if fullL 0 L then (.zero, 5)
  else if wrN j.af (framesB L).length < (framesB L).length then (⟨j.by_, j.du, 0⟩, 19)
  else (⟨framesB L, (framesB L).length, wrA j.af (framesB L).length⟩, 0)
end Go.Proofs.YtelidojkpbaofaaDoor
