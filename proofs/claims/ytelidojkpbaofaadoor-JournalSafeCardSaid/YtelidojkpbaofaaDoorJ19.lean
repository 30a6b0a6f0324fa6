/-
  A journal through any operations, in plain words. No program in sight.
-/
import Derived.Test.YtelidojkpbaofaaDoorJ18
namespace Go.Proofs.YtelidojkpbaofaaDoor
set_option maxRecDepth 20000
set_option linter.unusedSimpArgs false
set_option linter.unusedVariables false
open Go Go.Fw
/-- What a cut frame leaves. -/
def Torn (t : List Int) : Prop := ∃ (b : List Int) (k : Nat), b.length ≤ 300 ∧ isB b ∧ k < 36 + b.length ∧ t = (frB b).take k
theorem Torn.nil : Torn [] := ⟨[], 0, Nat.zero_le _, isB_nil, by simp, by rw [List.take_zero]⟩
theorem Torn.take {t : List Int} (h : Torn t) (n : Nat) : Torn (t.take n) := by
  obtain ⟨b, k, h1, h2, h3, rfl⟩ := h
  exact ⟨b, min n k, h1, h2, by omega, by rw [List.take_take]⟩
theorem Torn.len {t : List Int} (h : Torn t) : t.length ≤ 336 := by
  obtain ⟨b, k, h1, h2, h3, rfl⟩ := h
  rw [List.length_take]
  omega
theorem Torn.isB {t : List Int} (h : Torn t) : isB t := by
  obtain ⟨b, k, h1, h2, h3, rfl⟩ := h
  have := (isB_frB b h2).part 0 k
  rwa [List.drop_zero] at this
theorem Torn.read {t : List Int} (h : Torn t) : readL t = [] := by
  obtain ⟨b, k, h1, h2, h3, rfl⟩ := h
  exact read_torn (by omega) h3
/-- Of the first bytes, the records that end there are read. -/
theorem read_first {L : List (List Int)} (hL : ∀ b ∈ L, b.length ≤ 300) {t : List Int} (ht : Torn t) (n : Nat) :
    ∃ m, m ≤ L.length ∧ readL ((framesB L ++ t).take n) = L.take m ∧ ∀ d, d ≤ L.length → (framesB (L.take d)).length ≤ n → d ≤ m := by
  induction L generalizing n with
  | nil =>
    refine ⟨0, Nat.le_refl _, ?_, fun d hd _ => by simpa using hd⟩
    rw [framesB_nil, List.nil_append]
    exact (ht.take n).read
  | cons b L ih =>
    rw [framesB_cons, List.append_assoc]
    by_cases hn : 36 + b.length ≤ n
    · obtain ⟨m, h1, h2, h3⟩ := ih (fun x hx => hL x (by simp [hx])) (n - (36 + b.length))
      refine ⟨m + 1, by rw [List.length_cons]; omega, ?_, fun d hd hf => ?_⟩
      · rw [List.take_append, List.take_of_length_le (by rw [frB_length]; exact hn), read_frame (by have := hL b (by simp); omega), frB_length, h2, List.take_succ_cons]
      · cases d with
        | zero => omega
        | succ d =>
          rw [List.take_succ_cons, framesB_cons, List.length_append, frB_length] at hf
          have := h3 d (by rw [List.length_cons] at hd; omega) (by omega)
          omega
    · refine ⟨0, Nat.zero_le _, ?_, fun d hd hf => ?_⟩
      · rw [List.take_append_of_le_length (by rw [frB_length]; omega), List.take_zero]
        exact read_torn (by have := hL b (by simp); omega) (by omega)
      · cases d with
        | zero => omega
        | succ d =>
          rw [List.take_succ_cons, framesB_cons, List.length_append, frB_length] at hf
          omega
/-- A journal, the records that were appended completely, and how many of them are durable. -/
structure Saf (i : Nat) (j : JV) (L : List (List Int)) (d : Nat) : Prop where
  hi : L.length ≤ i
  h30 : i ≤ 30
  hb : ∀ b ∈ L, b.length ≤ 300 ∧ isB b
  ht : ∃ t, j.by_ = framesB L ++ t ∧ Torn t ∧ (t = [] ∨ j.af = 0)
  hd : d ≤ L.length
  hf : ((framesB (L.take d)).length : Int) ≤ j.du
  hu : j.du ≤ j.by_.length
  ha : -1 ≤ j.af ∧ j.af ≤ 1099511627776
theorem Saf.mono {i i' : Nat} {j : JV} {L : List (List Int)} {d : Nat} (h : Saf i j L d) (h1 : i ≤ i') (h2 : i' ≤ 30) : Saf i' j L d := ⟨Nat.le_trans h.hi h1, h2, h.hb, h.ht, h.hd, h.hf, h.hu, h.ha⟩
theorem frames_small {L : List (List Int)} (h : ∀ b ∈ L, b.length ≤ 300) (h2 : L.length ≤ 30) : (framesB L).length ≤ 10080 := by
  have := framesB_le h
  omega
theorem Saf.fl {i : Nat} {j : JV} {L : List (List Int)} {d : Nat} (h : Saf i j L d) : (framesB L).length ≤ 10080 := frames_small (fun b hb => (h.hb b hb).1) (by have := h.hi; have := h.h30; omega)
theorem Saf.len {i : Nat} {j : JV} {L : List (List Int)} {d : Nat} (h : Saf i j L d) : j.by_.length ≤ 10416 := by
  obtain ⟨t, h1, h2, _⟩ := h.ht
  have := h2.len
  have := h.fl
  rw [h1, List.length_append]
  omega
theorem Saf.isb {i : Nat} {j : JV} {L : List (List Int)} {d : Nat} (h : Saf i j L d) : isB j.by_ := by
  obtain ⟨t, h1, h2, _⟩ := h.ht
  rw [h1]
  exact (isB_framesB fun b hb => (h.hb b hb).2).append h2.isB
theorem Saf.valid {i : Nat} {j : JV} {L : List (List Int)} {d : Nat} (h : Saf i j L d) : validJ j := by
  have h1 := h.len
  have h2 := h.hf
  have h3 := h.hu
  have h4 := h.ha
  unfold validJ validN
  omega
theorem Saf.read {i : Nat} {j : JV} {L : List (List Int)} {d : Nat} (h : Saf i j L d) : readJ j = L := by
  unfold readJ
  rw [if_pos h.valid]
  obtain ⟨t, h1, h2, _⟩ := h.ht
  rw [h1, read_frames (fun b hb => by have := (h.hb b hb).1; omega), h2.read, List.append_nil]
theorem saf_new {a : Int} (ha : 0 ≤ a ∧ a ≤ 65535) : Saf 0 ⟨[], 0, a⟩ [] 0 :=
  ⟨Nat.le_refl _, by decide, fun b hb => (by cases hb), ⟨[], by rw [framesB_nil]; rfl, Torn.nil, .inl rfl⟩, Nat.le_refl _, (by rw [List.take_zero, framesB_nil]; exact Int.le_refl 0), Int.le_refl 0, (by dsimp only; omega)⟩
theorem saf_sync {i : Nat} {j : JV} {L : List (List Int)} {d : Nat} (h : Saf i j L d) : (syncJ j = (j, 19) ∧ j.af = 0) ∨ ∃ j', syncJ j = (j', 0) ∧ Saf i j' L L.length := by
  unfold syncJ
  rw [if_neg (fun hn => hn h.valid)]
  by_cases h0 : j.af = 0
  · rw [if_pos h0]
    exact .inl ⟨rfl, h0⟩
  · rw [if_neg h0]
    refine .inr ⟨_, rfl, h.hi, h.h30, h.hb, ?_, Nat.le_refl _, ?_, by dsimp only; omega, h.ha⟩
    · obtain ⟨t, h1, h2, h3⟩ := h.ht
      exact ⟨t, h1, h2, h3⟩
    · obtain ⟨t, h1, h2, h3⟩ := h.ht
      dsimp only
      rw [List.take_length, h1, List.length_append]
      omega
theorem wrN_zero (n : Nat) : wrN 0 n = 0 := by
  unfold wrN
  rw [if_neg (by decide)]
  split <;> omega
theorem saf_app {i : Nat} {j : JV} {L : List (List Int)} {d : Nat} (h : Saf i j L d) (hi : i < 30) {b : List Int} (hb : b.length ≤ 300) (hbb : isB b) :
    (∃ j', appJ j b = (j', 19) ∧ j'.af = 0 ∧ Saf (i + 1) j' L d) ∨ ∃ j', appJ j b = (j', 0) ∧ Saf (i + 1) j' (L ++ [b]) d := by
  have hl := h.len
  have ha := h.ha
  have hu := h.hu
  unfold appJ
  rw [if_neg (fun hn => hn h.valid), if_neg (by omega)]
  obtain ⟨t, h1, h2, h3⟩ := h.ht
  by_cases hw : wrN j.af (36 + b.length) < 36 + b.length
  · rw [if_pos hw]
    have haf : wrA j.af (36 + b.length) = 0 := by
      unfold wrN at hw
      unfold wrA
      by_cases e : j.af = -1
      · rw [if_pos e] at hw; omega
      · rw [if_neg e] at hw ⊢
        by_cases e2 : ((36 + b.length : Nat) : Int) ≤ j.af
        · rw [if_pos e2] at hw; omega
        · rw [if_neg e2]
    refine .inl ⟨_, rfl, ?_, ⟨by have := h.hi; omega, hi, h.hb, ?_, h.hd, h.hf, ?_, ?_⟩⟩
    · unfold wrJ
      dsimp only
      rw [frB_length]
      exact haf
    · unfold wrJ
      dsimp only
      rw [frB_length, haf]
      rcases h3 with h3 | h3
      · subst h3
        exact ⟨(frB b).take (wrN j.af (36 + b.length)), by rw [h1, List.append_nil], ⟨b, _, hb, hbb, hw, rfl⟩, .inr rfl⟩
      · rw [h3, wrN_zero, List.take_zero, List.append_nil]
        exact ⟨t, h1, h2, .inr rfl⟩
    · unfold wrJ
      dsimp only
      rw [List.length_append]
      omega
    · unfold wrJ
      dsimp only
      rw [frB_length, haf]
      omega
  · rw [if_neg hw]
    have hwn : wrN j.af (36 + b.length) = 36 + b.length := by
      have := wrN_le (n := 36 + b.length) ha.1
      omega
    have ht0 : t = [] := by
      rcases h3 with h3 | h3
      · exact h3
      · rw [h3, wrN_zero] at hwn
        omega
    subst ht0
    rw [List.append_nil] at h1
    have hA : -1 ≤ wrA j.af (36 + b.length) ∧ wrA j.af (36 + b.length) ≤ 1099511627776 := by
      unfold wrA
      split
      · omega
      · split <;> omega
    refine .inr ⟨_, rfl, ⟨by have := h.hi; rw [List.length_append, List.length_singleton]; omega, hi, fun x hx => ?_, ?_, ?_, ?_, ?_, ?_⟩⟩
    · rcases List.mem_append.1 hx with hx | hx
      · exact h.hb x hx
      · rw [List.mem_singleton] at hx
        subst hx
        exact ⟨hb, hbb⟩
    · unfold wrJ
      dsimp only
      rw [frB_length, hwn]
      exact ⟨[], by rw [framesB_snoc, h1, List.append_nil, List.take_of_length_le (by rw [frB_length]; exact Nat.le_refl _)], Torn.nil, .inl rfl⟩
    · have := h.hd
      rw [List.length_append]
      omega
    · rw [List.take_append_of_le_length h.hd]
      exact h.hf
    · unfold wrJ
      dsimp only
      rw [List.length_append]
      omega
    · unfold wrJ
      dsimp only
      rw [frB_length]
      exact hA
theorem saf_rew {i : Nat} {j : JV} {L : List (List Int)} {d : Nat} (h : Saf i j L d) :
    (∃ j', rewS j L = (j', 19) ∧ j'.af = 0 ∧ Saf i j' L d) ∨ ∃ j', rewS j L = (j', 0) ∧ Saf i j' L L.length := by
  have ha := h.ha
  have hfl := h.fl
  unfold rewS
  rw [if_neg (fun hn => hn h.valid)]
  by_cases hw : wrN j.af (framesB L).length < (framesB L).length
  · rw [if_pos hw]
    refine .inl ⟨_, rfl, rfl, h.hi, h.h30, h.hb, ?_, h.hd, h.hf, h.hu, by dsimp only; omega⟩
    obtain ⟨t, h1, h2, _⟩ := h.ht
    exact ⟨t, h1, h2, .inr rfl⟩
  · rw [if_neg hw]
    refine .inr ⟨_, rfl, h.hi, h.h30, h.hb, ⟨[], by rw [List.append_nil], Torn.nil, .inl rfl⟩, Nat.le_refl _, by dsimp only; rw [List.take_length]; omega, by dsimp only; omega, ?_⟩
    dsimp only
    unfold wrA
    split
    · omega
    · split <;> omega
theorem saf_crash {i : Nat} {j : JV} {L : List (List Int)} {d : Nat} (h : Saf i j L d) {keep : Int} (hk : 0 ≤ keep) :
    ∃ (P : List Int) (n m : Nat) (j' : JV), crashJ j keep = (⟨P, n, -1⟩, 0) ∧ P.length = n ∧ isB P ∧ n ≤ 10416 ∧ readJ ⟨P, n, -1⟩ = L.take m ∧ d ≤ m ∧ m ≤ L.length ∧ rewS ⟨P, n, -1⟩ (L.take m) = (j', 0) ∧ Saf i j' (L.take m) m := by
  have hl := h.len
  have hu := h.hu
  have hf := h.hf
  have hbs := h.isb
  unfold crashJ
  rw [if_neg (fun hn => hn h.valid), if_neg (by omega)]
  generalize hn : crashN j keep = n
  have hn1 : (n : Int) = j.du + min keep (j.by_.length - j.du) := by
    rw [← hn]
    unfold crashN
    omega
  have hPl : (j.by_.take n).length = n := by rw [List.length_take]; omega
  obtain ⟨t, h1, h2, _⟩ := h.ht
  obtain ⟨m, m1, m2, m3⟩ := read_first (fun b hb => (h.hb b hb).1) h2 n
  rw [← h1] at m2
  have hb' : ∀ b ∈ L.take m, b.length ≤ 300 ∧ isB b := fun b hb => h.hb b (List.mem_of_mem_take hb)
  have hlm : (L.take m).length = m := by rw [List.length_take]; omega
  have hv : validJ ⟨j.by_.take n, n, -1⟩ := by
    unfold validJ validN
    dsimp only
    omega
  refine ⟨j.by_.take n, n, m, _, rfl, hPl, ?_, by omega, ?_, m3 d h.hd (by omega), m1, rew_m1 hv, ?_⟩
  · have := hbs.part 0 n
    rwa [List.drop_zero] at this
  · unfold readJ
    rw [if_pos hv]
    exact m2
  · refine ⟨by have := h.hi; omega, h.h30, hb', ⟨[], by rw [List.append_nil], Torn.nil, .inl rfl⟩, by omega, ?_, by dsimp only; omega, by dsimp only; omega⟩
    dsimp only
    rw [List.take_of_length_le (by omega)]
    omega
end Go.Proofs.YtelidojkpbaofaaDoor
