/-
  The ledger in plain words: entries, balances, posting, replaying. No program in sight.
-/
import Derived.Test.YtmgmpgccnohpkaaFw8
namespace Go.Proofs.Ytmgmpgccnohpkaa
set_option maxRecDepth 20000
set_option linter.unusedSimpArgs false
set_option linter.unusedVariables false
open Go Go.Fw

structure Ent where
  d : Int
  c : Int
  a : Int
  n : Int
  deriving DecidableEq
abbrev Ent.enc (e : Ent) : List Value := [.int .i64 e.d, .int .i64 e.c, .int .i64 e.a, .int .i64 e.n]
theorem Ent.enc_length (e : Ent) : e.enc.length = 4 := rfl
theorem Ent.ones (e : Ent) : Fw.ones e.enc = true := rfl
theorem enc1_length (v : Int) : (enc1 v).length = 1 := rfl
theorem enc1_ones (v : Int) : Fw.ones (enc1 v) = true := rfl

def entryB (n : Int) (x : Ent) : Bool := decide (x.d ≠ x.c ∧ 0 ≤ x.d ∧ x.d < n ∧ 0 ≤ x.c ∧ x.c < n ∧ 1 ≤ x.a ∧ x.a ≤ 1099511627776 ∧ 0 ≤ x.n ∧ x.n ≤ 1073741824)
def lowB (bal : List Int) (x : Ent) : Bool := decide (5 ≤ x.d ∧ bal.getD x.d.toNat 0 < x.a)
def postL (bal : List Int) (x : Ent) : List Int :=
  let b := bal.set x.d.toNat (bal.getD x.d.toNat 0 - x.a)
  b.set x.c.toNat (b.getD x.c.toNat 0 + x.a)
@[simp] theorem postL_length (bal : List Int) (x : Ent) : (postL bal x).length = bal.length := by simp [postL]

structure Small (bal : List Int) : Prop where
  lo : ∀ k, -1152921504606846976 ≤ bal.getD k 0
  hi : ∀ k, bal.getD k 0 ≤ 1152921504606846976

/-- After m entries no balance is beyond m times the greatest amount. -/
structure Bnd (bal : List Int) (m : Nat) : Prop where
  lo : ∀ k, -(1099511627776 * (m : Int)) ≤ bal.getD k 0
  hi : ∀ k, bal.getD k 0 ≤ 1099511627776 * (m : Int)
theorem Bnd.small {bal : List Int} {m : Nat} (h : Bnd bal m) (hm : m ≤ 1048576) : Small bal :=
  ⟨fun k => by have := h.lo k; omega, fun k => by have := h.hi k; omega⟩
theorem Bnd.zero (n : Nat) : Bnd (List.replicate n 0) 0 := by
  have : ∀ k, (List.replicate n (0 : Int)).getD k 0 = 0 := by
    intro k
    simp only [List.getD, List.getElem?_replicate]
    split <;> rfl
  exact ⟨fun k => by rw [this]; simp, fun k => by rw [this]; simp⟩
theorem getD_set (l : List Int) (i k : Nat) (v : Int) : (l.set i v).getD k 0 = if i = k ∧ i < l.length then v else l.getD k 0 := by
  simp only [List.getD, List.getElem?_set]
  by_cases h : i = k
  · subst h
    by_cases h2 : i < l.length
    · simp [h2]
    · simp [h2]
  · simp [h]
theorem Bnd.post {bal : List Int} {m : Nat} (h : Bnd bal m) {x : Ent} (h1 : 0 ≤ x.a) (h2 : x.a ≤ 1099511627776) (hne : x.d.toNat ≠ x.c.toNat) : Bnd (postL bal x) (m + 1) := by
  have hd := h.lo x.d.toNat
  have hd' := h.hi x.d.toNat
  have hc := h.lo x.c.toNat
  have hc' := h.hi x.c.toNat
  have key : ∀ k, -(1099511627776 * (m : Int)) - 1099511627776 ≤ (postL bal x).getD k 0 ∧ (postL bal x).getD k 0 ≤ 1099511627776 * (m : Int) + 1099511627776 := by
    intro k
    have a1 := h.lo k
    have a2 := h.hi k
    unfold postL
    simp only [getD_set]
    have e : ¬ (x.d.toNat = x.c.toNat ∧ x.d.toNat < bal.length) := fun h => hne h.1
    rw [if_neg e]
    split
    · omega
    · split <;> omega
  exact ⟨fun k => by have := (key k).1; omega, fun k => by have := (key k).2; omega⟩

/-- Checked, one entry after the other. -/
def chk (n : Int) (b : List Int) : List Ent → Option (List Int)
  | [] => some b
  | x :: r => if entryB n x = false then none else if lowB b x = true then none else chk n (postL b x) r
def validB (bal : List Int) (ents : List Ent) : Bool := decide (5 ≤ bal.length ∧ bal.length ≤ 105 ∧ ents.length ≤ 1000 ∧ chk bal.length (List.replicate bal.length 0) ents = some bal)

def replayM (n : Int) : List Int → List Ent → List Ent → List Int × List Ent × Int
  | bal, ents, [] => (bal, ents, 0)
  | bal, ents, x :: r => if entryB n x = false then ([], [], 2) else if ents.length = 1000 then ([], [], 5) else if lowB bal x = true then ([], [], 17) else replayM n (postL bal x) (ents ++ [x]) r

def Replay (n : Int) (l : List Ent) : List Int × List Ent × Int := if 5 ≤ n ∧ n ≤ 105 then replayM n (List.replicate n.toNat 0) [] l else ([], [], 2)

def balsM (b : List Int) : List Ent → Option (List Int)
  | [] => some b
  | x :: r => if lowB b x = true then none else balsM (postL b x) r

theorem balsM_append (b : List Int) (l : List Ent) (x : Ent) : balsM b (l ++ [x]) = (balsM b l).bind fun b' => if lowB b' x = true then none else some (postL b' x) := by
  induction l generalizing b with
  | nil => simp [balsM]
  | cons y l ih =>
    simp only [List.cons_append, balsM]
    split
    · rfl
    · exact ih _

theorem balsM_length {b b' : List Int} {l : List Ent} (h : balsM b l = some b') : b'.length = b.length := by
  induction l generalizing b with
  | nil => simp [balsM] at h; rw [h]
  | cons x l ih =>
    simp only [balsM] at h
    split at h
    · cases h
    · rw [ih h, postL_length]

theorem chk_eq (n : Int) (b : List Int) (l : List Ent) : chk n b l = if l.all (entryB n) = true then balsM b l else none := by
  induction l generalizing b with
  | nil => simp [chk, balsM]
  | cons x l ih =>
    simp only [chk, balsM, List.all_cons, ih, Bool.and_eq_true]
    by_cases h1 : entryB n x = false
    · simp [h1]
    · have h1' : entryB n x = true := by simpa using h1
      simp only [h1', Bool.true_eq_false, if_false, true_and]
      by_cases h2 : lowB b x = true
      · simp [h2]
      · simp [h2]

theorem replayM_spec (n : Int) : ∀ (l : List Ent) (b0 bal : List Int) (ents : List Ent), balsM b0 ents = some bal → ents.length ≤ 1000 → ∀ (b' : List Int) (e' : List Ent), replayM n bal ents l = (b', e', 0) →
    e' = ents ++ l ∧ l.all (entryB n) = true ∧ balsM b0 (ents ++ l) = some b' ∧ (ents ++ l).length ≤ 1000
  | [], b0, bal, ents, h, hl, b', e', hr => by
    simp only [replayM, Prod.mk.injEq] at hr
    obtain ⟨rfl, rfl, _⟩ := hr
    simp [h, hl]
  | x :: l, b0, bal, ents, h, hl, b', e', hr => by
    simp only [replayM] at hr
    split at hr
    · simp at hr
    · rename_i h1
      split at hr
      · simp at hr
      · rename_i h2
        split at hr
        · simp at hr
        · rename_i h3
          have hb : balsM b0 (ents ++ [x]) = some (postL bal x) := by rw [balsM_append, h]; simp [h3]
          have := replayM_spec n l b0 (postL bal x) (ents ++ [x]) hb (by simp; omega) b' e' hr
          have hx : entryB n x = true := by simpa using h1
          simp only [List.append_assoc, List.singleton_append] at this
          refine ⟨this.1, ?_, this.2.2.1, this.2.2.2⟩
          simp [hx]
          simpa using this.2.1

theorem replayM_mk (n : Int) : ∀ (l : List Ent) (b0 bal : List Int) (ents : List Ent) (b' : List Int), balsM b0 ents = some bal → l.all (entryB n) = true → balsM b0 (ents ++ l) = some b' → (ents ++ l).length ≤ 1000 → replayM n bal ents l = (b', ents ++ l, 0)
  | [], b0, bal, ents, b', h, _, h2, _ => by
    simp only [List.append_nil] at h2 ⊢
    rw [h] at h2
    injection h2 with h2
    simp [replayM, h2]
  | x :: l, b0, bal, ents, b', h, h1, h2, h3 => by
    simp only [List.all_cons, Bool.and_eq_true] at h1
    simp only [replayM]
    rw [if_neg (by simp [h1.1]), if_neg (by simp at h3; omega)]
    have h2' : balsM b0 ((ents ++ [x]) ++ l) = some b' := by simpa using h2
    have h3' : ((ents ++ [x]) ++ l).length ≤ 1000 := by simpa using h3
    have hx : lowB bal x = false := by
      cases hx : lowB bal x
      · rfl
      · exfalso
        have : balsM b0 (ents ++ [x]) = none := by rw [balsM_append, h]; simp [hx]
        have key : ∀ (l : List Ent) (b0 : List Int) (ys : List Ent), balsM b0 ys = none → balsM b0 (ys ++ l) = none := by
          intro l b0 ys
          induction ys generalizing b0 with
          | nil => intro h; simp [balsM] at h
          | cons y ys ih =>
            intro h
            simp only [balsM, List.cons_append] at h ⊢
            split
            · rfl
            · rename_i hh; rw [if_neg hh] at h; exact ih _ h
        rw [key l b0 _ this] at h2'
        cases h2'
    rw [if_neg (by simp [hx])]
    have hb : balsM b0 (ents ++ [x]) = some (postL bal x) := by rw [balsM_append, h]; simp [hx]
    have := replayM_mk n l b0 (postL bal x) (ents ++ [x]) b' hb h1.2 h2' h3'
    simpa using this

theorem replicate_toNat (n : Nat) : (List.replicate ((n : Int)).toNat (0 : Int)) = List.replicate n 0 := by simp

/-- What is replayed is its own replay, and valid. -/
theorem Replay_again (n : Int) (l : List Ent) (b : List Int) (e : List Ent) (h : Replay n l = (b, e, 0)) : Replay b.length e = (b, e, 0) ∧ validB b e = true := by
  unfold Replay at h
  split at h
  · rename_i hn
    have hs := replayM_spec n l (List.replicate n.toNat 0) (List.replicate n.toNat 0) [] rfl (by simp) b e h
    obtain ⟨he, h2, h3, h4⟩ := hs
    simp only [List.nil_append] at he h3 h4
    subst he
    have hlen := balsM_length h3
    simp only [List.length_replicate] at hlen
    have hbn : (b.length : Int) = n := by omega
    constructor
    · unfold Replay
      rw [if_pos (by omega), hbn]
      have := replayM_mk n e (List.replicate n.toNat 0) (List.replicate n.toNat 0) [] b rfl h2 (by simpa using h3) (by simpa using h4)
      simpa using this
    · unfold validB
      simp only [decide_eq_true_eq]
      refine ⟨by omega, by omega, h4, ?_⟩
      rw [chk_eq, hbn, h2, if_pos rfl, show b.length = n.toNat by omega]
      exact h3
  · simp at h
end Go.Proofs.Ytmgmpgccnohpkaa
