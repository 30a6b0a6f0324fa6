/-
  Some texts joined.
-/
import Derived.Test.YtjaeblkgjbncmaaDoorWA
import Derived.Shelf.Lay
import Derived.Shelf.LaySoft
import Derived.Shelf.Small.Bits
import Derived.Shelf.Strings.OnBuilder
import Derived.Shelf.Strings.Repeat
import Derived.Shelf.LaysM
import Derived.Shelf.Strconv.Itoa1
import Derived.Shelf.Strconv.Itoa2
import Derived.Test.YtjaeblkgjbncmaaDoorProg
import Derived.Lib.LaidTab
import Derived.Lib.Itoa
/-
  Texts read: the program's way and the reference's way.
-/
namespace Go.Proofs.YtjaeblkgjbncmaaDoor
set_option maxRecDepth 20000
set_option linter.unusedSimpArgs false
set_option linter.unusedVariables false
open Go Go.Fw
/-- What the reading of a text says: the error and the number. -/
def rdP (b : Nat) (l : List Int) : Nat × Nat :=
  if 1000 < l.length then (5, 0) else if l = [] ∨ l.head? = some 48 ∧ 1 < l.length then (3, 0) else if ¬ ∀ c ∈ l, valc c < b then (3, 0) else if 64 < nd W (num b l) then (9, 0) else (0, num b l)
/-- A number handed back, and an error. -/
def NRs (p : Nat × Nat) (v : Value) (new : List OB) : Prop := ∃ u, v = .tuple #[.agg [u].toArray, .int .i64 p.1] ∧ WR (nd W p.2) p.2 u new
theorem WR.zero : WR (nd W 0) 0 (.slice none 0 0) [⟨none, [], 51⟩] := by
  rw [nd_zero]
  refine ⟨none, none, 0, [], rfl, ?_, ?_⟩
  · rw [wI_zero]; rfl
  · rw [wI_zero]; exact SO.nil 1
theorem num_take_succ {b : Nat} {l : List Int} {i : Nat} (h : i < l.length) : num b (l.take (i + 1)) = num b (l.take i) * b + valc (l.getD i 0) := by
  rw [List.take_succ_eq_append_getElem h, num_snoc, List.getD_eq_getElem?_getD, List.getElem?_eq_getElem h]
  rfl
theorem num_take_le {b : Nat} (hb : 1 ≤ b) {l : List Int} : ∀ (m i : Nat), i + m = l.length → num b (l.take i) ≤ num b l := by
  intro m
  induction m with
  | zero => intro i h; rw [List.take_of_length_le (by omega)]; exact Nat.le_refl _
  | succ m ih =>
    intro i h
    have h1 := ih (i + 1) (by omega)
    rw [num_take_succ (by omega)] at h1
    have h2 : num b (l.take i) ≤ num b (l.take i) * b := Nat.le_mul_of_pos_right _ hb
    omega
theorem rdP_long {b : Nat} {l : List Int} (h : 1000 < l.length) : rdP b l = (5, 0) := by unfold rdP; rw [if_pos h]
theorem rdP_form {b : Nat} {l : List Int} (h1 : ¬ 1000 < l.length) (h2 : l = [] ∨ l.head? = some 48 ∧ 1 < l.length) : rdP b l = (3, 0) := by unfold rdP; rw [if_neg h1, if_pos h2]
theorem rdP_dig {b : Nat} {l : List Int} (h1 : ¬ 1000 < l.length) (h2 : ¬ (l = [] ∨ l.head? = some 48 ∧ 1 < l.length)) {i : Nat} (hi : i < l.length) (h3 : ¬ valc (l.getD i 0) < b) : rdP b l = (3, 0) := by
  unfold rdP
  rw [if_neg h1, if_neg h2, if_pos]
  intro h
  refine h3 (h _ ?_)
  rw [List.getD_eq_getElem?_getD, List.getElem?_eq_getElem hi]
  exact List.getElem_mem _
theorem rdP_big {b : Nat} {l : List Int} (h1 : ¬ 1000 < l.length) (h2 : ¬ (l = [] ∨ l.head? = some 48 ∧ 1 < l.length)) (h3 : ∀ c ∈ l, valc c < b) (h4 : 64 < nd W (num b l)) : rdP b l = (9, 0) := by
  unfold rdP
  rw [if_neg h1, if_neg h2, if_neg (fun h => h h3), if_pos h4]
theorem rdP_ok {b : Nat} {l : List Int} (h1 : ¬ 1000 < l.length) (h2 : ¬ (l = [] ∨ l.head? = some 48 ∧ 1 < l.length)) (h3 : ∀ c ∈ l, valc c < b) (h4 : ¬ 64 < nd W (num b l)) : rdP b l = (0, num b l) := by
  unfold rdP
  rw [if_neg h1, if_neg h2, if_neg (fun h => h h3), if_neg h4]
theorem all_take_succ {b : Nat} {l : List Int} {i : Nat} (hi : i < l.length) (h : ∀ c ∈ l.take i, valc c < b) (h2 : valc (l.getD i 0) < b) : ∀ c ∈ l.take (i + 1), valc c < b := by
  intro c hc
  rw [List.take_succ_eq_append_getElem hi] at hc
  rcases List.mem_append.1 hc with hc | hc
  · exact h c hc
  · rw [List.mem_singleton] at hc
    subst hc
    rw [List.getD_eq_getElem?_getD, List.getElem?_eq_getElem hi] at h2
    exact h2
theorem isB_getD {l : List Int} (hb : ∀ x ∈ l, 0 ≤ x ∧ x ≤ 255) (i : Nat) : 0 ≤ l.getD i 0 ∧ l.getD i 0 ≤ 255 := by
  rw [List.getD_eq_getElem?_getD]
  cases h : l[i]? with
  | none => exact ⟨by decide, by decide⟩
  | some x => exact hb x (List.mem_of_getElem? h)
theorem emptyS {l : List Int} (hb : ∀ x ∈ l, 0 ≤ x ∧ x ≤ 255) : ((strOf l).toList == (⟨#[]⟩ : ByteArray).toList) = decide (l = []) := strOf_beq (ys := []) hb (by simp)
theorem head_get {l : List Int} (h : 0 < l.length) : l.head? = some (l.getD 0 0) := by
  cases l with
  | nil => simp at h
  | cons x r => rfl
/-- The length of a read number's words. -/
theorem nd_num {b m : Nat} (hb : b ≤ 16) {l : List Int} (h : ∀ c ∈ l, valc c < b) (hl : l.length ≤ m) : nd W (num b l) ≤ m := by
  refine nd_le (by decide) (Nat.lt_of_lt_of_le (num_lt h) ?_)
  refine Nat.le_trans (Nat.pow_le_pow_left (Nat.le_trans hb (by decide : 16 ≤ W)) _) (Nat.pow_le_pow_right (by decide) hl)
theorem num_all {b : Nat} {l : List Int} (h : ∀ c ∈ l, valc c < b) (i : Nat) : ∀ c ∈ l.take i, valc c < b := fun c hc => h c (List.mem_of_mem_take hc)
end Go.Proofs.YtjaeblkgjbncmaaDoor
namespace Go.Proofs.YtjaeblkgjbncmaaDoor
set_option maxRecDepth 20000
set_option linter.unusedSimpArgs false
set_option linter.unusedVariables false
open Go Go.Fw
attribute [local irreducible] CW OL OD FX Stp FnC FnV Ret wI vd strOf ca mid zmid valc num rdP
set_option maxHeartbeats 800000
structure RSt where
  i : Nat
  r : Option Nat
  c : Nat
  sp : List Value

theorem read_spec (w : World) {b : Nat} (hb : b = 10 ∨ b = 16) {l : List Int} (hl : ∀ x ∈ l, 0 ≤ x ∧ x ≤ 255) :
    FnC Tryd.prog 24 [.string (strOf l), .int .u64 b] w (NRs (rdP b l)) := by
  refine enterF (M := View.of w) Tryd.func24 rfl rfl rfl rfl (View.le.refl _) ?_
  have hsz := strOf_size l
  have he := emptyS hl
  refine cw_none 51 ?_
  refine cw_none 51 ?_
  by_cases h1 : 1000 < l.length
  · rw [rdP_long h1]
    repeat' first
      | apply cw_seq
      | (refine cw_region_id 0 ?_; (apply ol_val; exact rfl; apply s_alloc; exact zb_25; (focus ((repeat constructor); done)); intro bk4); (apply ol_as; exact rfl; exact rfl); (apply ol_nil))
      | (refine cw_region_id 1 ?_; (apply ol_mv; exact rfl; exact rfl); (apply ol_val; exact rfl; apply stp_pur; apply s_len_string; exact rfl; exact rfl; exact rfl); (apply ol_val; exact rfl; apply stp_cmp; apply s_gtr; exact rfl; exact rfl; all_goals (intro hc12; try (exfalso; (first | exact hc12 rfl | omega)))); all_goals (apply ol_nil))
      | (refine cw_region_id 2 ?_; (apply ol_val; exact rfl; apply stp_pur; apply s_buildS; exact rfl; exact fs_25; exact zb_25; (focus ((repeat (first | exact rfl | constructor)); done))); (apply ol_eff; apply s_storeN; exact rfl; exact rfl; exact sz_25; exact rfl; exact rfl; (focus ((repeat constructor); done)); (focus ((repeat constructor); done))); (apply ol_as; exact rfl; exact rfl); (apply ol_nil))
      | (apply cw_cond_true; exact rfl; (first | exact rfl | assumption))
      | (apply cw_cond_false; exact rfl; (first | exact rfl | assumption))
      | apply cw_skip
      | apply cw_ret
      | apply cw_block
      | apply cw_exit
    refine ends [⟨none, [], 51⟩] (RVal.cellN rfl rfl rfl (RdN.own (by (repeat (first | exact Has.here | apply Has.there))) (GetN.cons rfl GetN.nil)) (RVal.tmp rfl RVal.nil)) (by (repeat (first | exact Pick.nil | (apply Pick.cons; (focus ((repeat (first | exact Spl.here | apply Spl.there)); done))) | exact Pick.refl))) ?_
    exact ⟨_, rfl, WR.zero⟩
  · have hat := fun (i : Nat) => strOf_at (i := i) hl
    by_cases h2 : l = []
    · rw [rdP_form h1 (.inl h2)]
      rw [decide_eq_true h2] at he
      repeat' first
        | apply cw_seq
        | (refine cw_region_id 0 ?_; (apply ol_val; exact rfl; apply s_alloc; exact zb_25; (focus ((repeat constructor); done)); intro bk4); (apply ol_as; exact rfl; exact rfl); (apply ol_nil))
        | (refine cw_region_id 1 ?_; (apply ol_mv; exact rfl; exact rfl); (apply ol_val; exact rfl; apply stp_pur; apply s_len_string; exact rfl; exact rfl; exact rfl); (apply ol_val; exact rfl; apply stp_cmp; apply s_gtr; exact rfl; exact rfl; all_goals (intro hc12; try (exfalso; (first | exact hc12 rfl | omega)))); all_goals (apply ol_nil))
        | (refine cw_region_id 3 ?_; (apply ol_mv; exact rfl; exact rfl); (apply ol_val; exact rfl; apply stp_pur; apply s_eqlStr; exact rfl; exact rfl); (apply ol_mv; exact rfl; exact rfl); (first | (apply ol_gskip; exact rfl; exact rfl; (first | exact rfl | assumption); exact rfl) | (apply ol_gval; exact rfl; exact rfl; exact rfl; (first | exact rfl | assumption); apply stp_pur; apply s_move; exact rfl)); (apply ol_gskip; exact rfl; exact rfl; (first | exact rfl | assumption); exact rfl); (first | (apply ol_gskip; exact rfl; exact rfl; (first | exact rfl | assumption); exact rfl) | (apply ol_gval; exact rfl; exact rfl; exact rfl; (first | exact rfl | assumption); apply stp_cmp; apply s_eql; exact rfl; exact rfl; all_goals (intro hc19; try (exfalso; (first | exact hc19 rfl | omega))))); all_goals (first | (apply ol_gskip; exact rfl; exact rfl; (first | exact rfl | assumption); exact rfl) | (apply ol_gval; exact rfl; exact rfl; exact rfl; (first | exact rfl | assumption); apply stp_pur; apply s_move; exact rfl)); all_goals (first | (apply ol_gskip; exact rfl; exact rfl; (first | exact rfl | assumption); exact rfl) | (apply ol_gskipu; exact rfl; exact rfl; exact rfl) | (apply ol_gval; exact rfl; exact rfl; exact rfl; (first | exact rfl | assumption); apply stp_pur; apply s_move; exact rfl)); all_goals (first | (apply ol_gskip; exact rfl; exact rfl; (first | exact rfl | assumption); exact rfl) | (apply ol_gskipu; exact rfl; exact rfl; exact rfl) | (apply ol_gval; exact rfl; exact rfl; exact rfl; (first | exact rfl | assumption); apply stp_pur; apply s_len_string; exact rfl; exact rfl; exact rfl)); all_goals (first | (apply ol_gskip; exact rfl; exact rfl; (first | exact rfl | assumption); exact rfl) | (apply ol_gskipu; exact rfl; exact rfl; exact rfl) | (apply ol_gval; exact rfl; exact rfl; exact rfl; (first | exact rfl | assumption); apply stp_cmp; apply s_gtr; exact rfl; exact rfl; all_goals (intro hc23; try (exfalso; (first | exact hc23 rfl | omega))))); all_goals (first | (apply ol_gskip; exact rfl; exact rfl; (first | exact rfl | assumption); exact rfl) | (apply ol_gval; exact rfl; exact rfl; exact rfl; (first | exact rfl | assumption); apply stp_pur; first | (apply s_pick_t; exact rfl; (first | exact rfl | assumption); exact rfl) | (apply s_pick_f; exact rfl; (first | exact rfl | assumption); exact rfl))); all_goals (apply ol_val; exact rfl; apply stp_pur; first | (apply s_pick_t; exact rfl; (first | exact rfl | assumption); exact rfl) | (apply s_pick_f; exact rfl; (first | exact rfl | assumption); exact rfl)); all_goals (apply ol_nil))
        | (refine cw_region_id 4 ?_; (apply ol_val; exact rfl; apply stp_pur; apply s_buildS; exact rfl; exact fs_25; exact zb_25; (focus ((repeat (first | exact rfl | constructor)); done))); (apply ol_eff; apply s_storeN; exact rfl; exact rfl; exact sz_25; exact rfl; exact rfl; (focus ((repeat constructor); done)); (focus ((repeat constructor); done))); (apply ol_as; exact rfl; exact rfl); (apply ol_nil))
        | (apply cw_cond_true; exact rfl; (first | exact rfl | assumption))
        | (apply cw_cond_false; exact rfl; (first | exact rfl | assumption))
        | apply cw_skip
        | apply cw_ret
        | apply cw_block
        | apply cw_exit
      refine ends [⟨none, [], 51⟩] (RVal.cellN rfl rfl rfl (RdN.own (by (repeat (first | exact Has.here | apply Has.there))) (GetN.cons rfl GetN.nil)) (RVal.tmp rfl RVal.nil)) (by (repeat (first | exact Pick.nil | (apply Pick.cons; (focus ((repeat (first | exact Spl.here | apply Spl.there)); done))) | exact Pick.refl))) ?_
      exact ⟨_, rfl, WR.zero⟩
    · rw [decide_eq_false h2] at he
      have hpos : 0 < l.length := List.length_pos_iff.2 h2
      have hh := head_get hpos
      by_cases h3 : l.getD 0 0 = 48 ∧ 1 < l.length
      · rw [rdP_form h1 (.inr ⟨by rw [hh, h3.1], h3.2⟩)]
        repeat' first
          | apply cw_seq
          | (refine cw_region_id 0 ?_; (apply ol_val; exact rfl; apply s_alloc; exact zb_25; (focus ((repeat constructor); done)); intro bk4); (apply ol_as; exact rfl; exact rfl); (apply ol_nil))
          | (refine cw_region_id 1 ?_; (apply ol_mv; exact rfl; exact rfl); (apply ol_val; exact rfl; apply stp_pur; apply s_len_string; exact rfl; exact rfl; exact rfl); (apply ol_val; exact rfl; apply stp_cmp; apply s_gtr; exact rfl; exact rfl; all_goals (intro hc12; try (exfalso; (first | exact hc12 rfl | omega)))); all_goals (apply ol_nil))
          | (refine cw_region_id 3 ?_; (apply ol_mv; exact rfl; exact rfl); (apply ol_val; exact rfl; apply stp_pur; apply s_eqlStr; exact rfl; exact rfl); (apply ol_mv; exact rfl; exact rfl); (first | (apply ol_gskip; exact rfl; exact rfl; (first | exact rfl | assumption); exact rfl) | (apply ol_gval; exact rfl; exact rfl; exact rfl; (first | exact rfl | assumption); apply stp_pur; apply s_move; exact rfl)); (first | (apply ol_gskip; exact rfl; exact rfl; (first | exact rfl | assumption); exact rfl) | (apply ol_gval; exact rfl; exact rfl; exact rfl; (first | exact rfl | assumption); apply stp_pur; apply s_indexS; exact rfl; exact rfl; exact us_9; omega; exact hat 0)); (first | (apply ol_gskip; exact rfl; exact rfl; (first | exact rfl | assumption); exact rfl) | (apply ol_gval; exact rfl; exact rfl; exact rfl; (first | exact rfl | assumption); apply stp_cmp; apply s_eql; exact rfl; exact rfl; all_goals (intro hc19; try (exfalso; (first | exact hc19 rfl | omega))))); all_goals (first | (apply ol_gskip; exact rfl; exact rfl; (first | exact rfl | assumption); exact rfl) | (apply ol_gval; exact rfl; exact rfl; exact rfl; (first | exact rfl | assumption); apply stp_pur; apply s_move; exact rfl)); all_goals (first | (apply ol_gskip; exact rfl; exact rfl; (first | exact rfl | assumption); exact rfl) | (apply ol_gskipu; exact rfl; exact rfl; exact rfl) | (apply ol_gval; exact rfl; exact rfl; exact rfl; (first | exact rfl | assumption); apply stp_pur; apply s_move; exact rfl)); all_goals (first | (apply ol_gskip; exact rfl; exact rfl; (first | exact rfl | assumption); exact rfl) | (apply ol_gskipu; exact rfl; exact rfl; exact rfl) | (apply ol_gval; exact rfl; exact rfl; exact rfl; (first | exact rfl | assumption); apply stp_pur; apply s_len_string; exact rfl; exact rfl; exact rfl)); all_goals (first | (apply ol_gskip; exact rfl; exact rfl; (first | exact rfl | assumption); exact rfl) | (apply ol_gskipu; exact rfl; exact rfl; exact rfl) | (apply ol_gval; exact rfl; exact rfl; exact rfl; (first | exact rfl | assumption); apply stp_cmp; apply s_gtr; exact rfl; exact rfl; all_goals (intro hc23; try (exfalso; (first | exact hc23 rfl | omega))))); all_goals (first | (apply ol_gskip; exact rfl; exact rfl; (first | exact rfl | assumption); exact rfl) | (apply ol_gval; exact rfl; exact rfl; exact rfl; (first | exact rfl | assumption); apply stp_pur; first | (apply s_pick_t; exact rfl; (first | exact rfl | assumption); exact rfl) | (apply s_pick_f; exact rfl; (first | exact rfl | assumption); exact rfl))); all_goals (apply ol_val; exact rfl; apply stp_pur; first | (apply s_pick_t; exact rfl; (first | exact rfl | assumption); exact rfl) | (apply s_pick_f; exact rfl; (first | exact rfl | assumption); exact rfl)); all_goals (apply ol_nil))
          | (refine cw_region_id 4 ?_; (apply ol_val; exact rfl; apply stp_pur; apply s_buildS; exact rfl; exact fs_25; exact zb_25; (focus ((repeat (first | exact rfl | constructor)); done))); (apply ol_eff; apply s_storeN; exact rfl; exact rfl; exact sz_25; exact rfl; exact rfl; (focus ((repeat constructor); done)); (focus ((repeat constructor); done))); (apply ol_as; exact rfl; exact rfl); (apply ol_nil))
          | (apply cw_cond_true; exact rfl; (first | exact rfl | assumption))
          | (apply cw_cond_false; exact rfl; (first | exact rfl | assumption))
          | apply cw_skip
          | apply cw_ret
          | apply cw_block
          | apply cw_exit
        refine ends [⟨none, [], 51⟩] (RVal.cellN rfl rfl rfl (RdN.own (by (repeat (first | exact Has.here | apply Has.there))) (GetN.cons rfl GetN.nil)) (RVal.tmp rfl RVal.nil)) (by (repeat (first | exact Pick.nil | (apply Pick.cons; (focus ((repeat (first | exact Spl.here | apply Spl.there)); done))) | exact Pick.refl))) ?_
        exact ⟨_, rfl, WR.zero⟩
      · have h4 : ¬ (l = [] ∨ l.head? = some 48 ∧ 1 < l.length) := fun h => by
          rcases h with h | h
          · exact h2 h
          · rw [hh] at h
            exact h3 ⟨Option.some.inj h.1, h.2⟩
        repeat' first
          | apply cw_seq
          | (refine cw_region_id 0 ?_; (apply ol_val; exact rfl; apply s_alloc; exact zb_25; (focus ((repeat constructor); done)); intro bk4); (apply ol_as; exact rfl; exact rfl); (apply ol_nil))
          | (refine cw_region_id 1 ?_; (apply ol_mv; exact rfl; exact rfl); (apply ol_val; exact rfl; apply stp_pur; apply s_len_string; exact rfl; exact rfl; exact rfl); (apply ol_val; exact rfl; apply stp_cmp; apply s_gtr; exact rfl; exact rfl; all_goals (intro hc12; try (exfalso; (first | exact hc12 rfl | omega)))); all_goals (apply ol_nil))
          | (refine cw_region_id 3 ?_; (apply ol_mv; exact rfl; exact rfl); (apply ol_val; exact rfl; apply stp_pur; apply s_eqlStr; exact rfl; exact rfl); (apply ol_mv; exact rfl; exact rfl); (first | (apply ol_gskip; exact rfl; exact rfl; (first | exact rfl | assumption); exact rfl) | (apply ol_gval; exact rfl; exact rfl; exact rfl; (first | exact rfl | assumption); apply stp_pur; apply s_move; exact rfl)); (first | (apply ol_gskip; exact rfl; exact rfl; (first | exact rfl | assumption); exact rfl) | (apply ol_gval; exact rfl; exact rfl; exact rfl; (first | exact rfl | assumption); apply stp_pur; apply s_indexS; exact rfl; exact rfl; exact us_9; omega; exact hat 0)); (first | (apply ol_gskip; exact rfl; exact rfl; (first | exact rfl | assumption); exact rfl) | (apply ol_gval; exact rfl; exact rfl; exact rfl; (first | exact rfl | assumption); apply stp_cmp; apply s_eql; exact rfl; exact rfl; all_goals (intro hc19; try (exfalso; (first | exact hc19 rfl | omega))))); all_goals (first | (apply ol_gskip; exact rfl; exact rfl; (first | exact rfl | assumption); exact rfl) | (apply ol_gval; exact rfl; exact rfl; exact rfl; (first | exact rfl | assumption); apply stp_pur; apply s_move; exact rfl)); all_goals (first | (apply ol_gskip; exact rfl; exact rfl; (first | exact rfl | assumption); exact rfl) | (apply ol_gskipu; exact rfl; exact rfl; exact rfl) | (apply ol_gval; exact rfl; exact rfl; exact rfl; (first | exact rfl | assumption); apply stp_pur; apply s_move; exact rfl)); all_goals (first | (apply ol_gskip; exact rfl; exact rfl; (first | exact rfl | assumption); exact rfl) | (apply ol_gskipu; exact rfl; exact rfl; exact rfl) | (apply ol_gval; exact rfl; exact rfl; exact rfl; (first | exact rfl | assumption); apply stp_pur; apply s_len_string; exact rfl; exact rfl; exact rfl)); all_goals (first | (apply ol_gskip; exact rfl; exact rfl; (first | exact rfl | assumption); exact rfl) | (apply ol_gskipu; exact rfl; exact rfl; exact rfl) | (apply ol_gval; exact rfl; exact rfl; exact rfl; (first | exact rfl | assumption); apply stp_cmp; apply s_gtr; exact rfl; exact rfl; all_goals (intro hc23; try (exfalso; (first | exact hc23 rfl | omega))))); all_goals (first | (apply ol_gskip; exact rfl; exact rfl; (first | exact rfl | assumption); exact rfl) | (apply ol_gval; exact rfl; exact rfl; exact rfl; (first | exact rfl | assumption); apply stp_pur; first | (apply s_pick_t; exact rfl; (first | exact rfl | assumption); exact rfl) | (apply s_pick_f; exact rfl; (first | exact rfl | assumption); exact rfl))); all_goals (apply ol_val; exact rfl; apply stp_pur; first | (apply s_pick_t; exact rfl; (first | exact rfl | assumption); exact rfl) | (apply s_pick_f; exact rfl; (first | exact rfl | assumption); exact rfl)); all_goals (apply ol_nil))
          | (refine cw_region_id 5 ?_; (apply ol_mv; exact rfl; exact rfl); (apply ol_val; exact rfl; apply stp_pur; apply s_len_string; exact rfl; exact rfl; exact rfl); (apply ol_mv; exact rfl; exact rfl); (apply ol_nil))
          | (apply cw_cond_true; exact rfl; (first | exact rfl | assumption))
          | (apply cw_cond_false; exact rfl; (first | exact rfl | assumption))
          | apply cw_skip
          | apply cw_ret
          | apply cw_block
          | apply cw_exit
        all_goals
          clear h3 hh
          refine cw_loopK (σ := Nat) [0, 1, 4, 28] (by (repeat (first | exact Keep.nil | (apply Keep.cons; exact rfl)))) (fun i => [(29, .int .i64 i)]) (fun _ => View.of w) (fun _ => [⟨some bk4, [.slice none 0 0], 25⟩, ⟨none, [], 51⟩, ⟨none, [], 51⟩]) (fun i => i ≤ l.length ∧ ∀ c ∈ l.take i, valc c < b) (fun i => l.length - i) 0 (by (repeat (first | exact trivial | refine And.intro rfl ?_))) (View.le.refl _) (by (repeat (first | exact Pick.nil | (apply Pick.cons; (focus ((repeat (first | exact Spl.here | apply Spl.there)); done))) | exact Pick.refl))) ⟨Nat.zero_le _, fun c hc => by rw [List.take_zero] at hc; cases hc⟩ ?_
          rintro i ⟨hi, hall⟩
          by_cases hik : i < l.length
          · have hz := isB_getD hl i
            have hvs := fun (w' : World) => value_spec w' hz
            by_cases hv : valc (l.getD i 0) < b
            · have hnext := all_take_succ hik hall hv
              repeat' first
                | apply cw_seq
                | (refine cw_region_id 6 ?_; (apply ol_val; exact rfl; apply stp_cmp; apply s_lss; exact rfl; exact rfl; all_goals (intro hc30; try (exfalso; (first | exact hc30 rfl | omega)))); all_goals (apply ol_nil))
                | (refine cw_region_id 7 ?_; (apply ol_mv; exact rfl; exact rfl); (apply ol_as; exact rfl; exact rfl); (apply ol_nil))
                | (refine cw_region_id 8 ?_; (apply ol_mv; exact rfl; exact rfl); (apply ol_mv; exact rfl; exact rfl); (apply ol_val; exact rfl; apply stp_pur; apply s_indexS; exact rfl; exact rfl; exact us_9; omega; exact hat i); (apply ol_val; exact rfl; apply s_callv; exact rfl; exact gf_39; (intro w' hw'; exact hvs w')); (apply ol_mv; exact rfl; exact rfl); (apply ol_val; exact rfl; apply stp_cmp; apply s_geq; exact rfl; exact rfl; all_goals (intro hc37; try (exfalso; (first | exact hc37 rfl | omega)))); all_goals (apply ol_nil))
                | (refine cw_region_id 10 ?_; (apply ol_val; exact rfl; apply stp_pur; apply s_add64; exact rfl; exact rfl; omega); (apply ol_mv; exact rfl; exact rfl); (apply ol_nil))
                | (apply cw_cond_true; exact rfl; (first | exact rfl | assumption))
                | (apply cw_cond_false; exact rfl; (first | exact rfl | assumption))
                | apply cw_skip
                | apply cw_ret
                | apply cw_block
                | apply cw_exit
              exact ⟨i + 1, ⟨by (repeat (first | exact trivial | refine And.intro rfl ?_)), View.le.refl _, by (repeat (first | exact Pick.nil | (apply Pick.cons; (focus ((repeat (first | exact Spl.here | apply Spl.there)); done))) | exact Pick.refl)), ⟨hik, hnext⟩, by omega⟩⟩
            · rw [rdP_dig h1 h4 hik hv]
              repeat' first
                | apply cw_seq
                | (refine cw_region_id 6 ?_; (apply ol_val; exact rfl; apply stp_cmp; apply s_lss; exact rfl; exact rfl; all_goals (intro hc30; try (exfalso; (first | exact hc30 rfl | omega)))); all_goals (apply ol_nil))
                | (refine cw_region_id 7 ?_; (apply ol_mv; exact rfl; exact rfl); (apply ol_as; exact rfl; exact rfl); (apply ol_nil))
                | (refine cw_region_id 8 ?_; (apply ol_mv; exact rfl; exact rfl); (apply ol_mv; exact rfl; exact rfl); (apply ol_val; exact rfl; apply stp_pur; apply s_indexS; exact rfl; exact rfl; exact us_9; omega; exact hat i); (apply ol_val; exact rfl; apply s_callv; exact rfl; exact gf_39; (intro w' hw'; exact hvs w')); (apply ol_mv; exact rfl; exact rfl); (apply ol_val; exact rfl; apply stp_cmp; apply s_geq; exact rfl; exact rfl; all_goals (intro hc37; try (exfalso; (first | exact hc37 rfl | omega)))); all_goals (apply ol_nil))
                | (refine cw_region_id 9 ?_; (apply ol_val; exact rfl; apply stp_pur; apply s_buildS; exact rfl; exact fs_25; exact zb_25; (focus ((repeat (first | exact rfl | constructor)); done))); (apply ol_eff; apply s_storeN; exact rfl; exact rfl; exact sz_25; exact rfl; exact rfl; (focus ((repeat constructor); done)); (focus ((repeat constructor); done))); (apply ol_as; exact rfl; exact rfl); (apply ol_nil))
                | (apply cw_cond_true; exact rfl; (first | exact rfl | assumption))
                | (apply cw_cond_false; exact rfl; (first | exact rfl | assumption))
                | apply cw_skip
                | apply cw_ret
                | apply cw_block
                | apply cw_exit
              refine ends [⟨none, [], 51⟩] (RVal.cellN rfl rfl rfl (RdN.own (by (repeat (first | exact Has.here | apply Has.there))) (GetN.cons rfl GetN.nil)) (RVal.tmp rfl RVal.nil)) (by (repeat (first | exact Pick.nil | (apply Pick.cons; (focus ((repeat (first | exact Spl.here | apply Spl.there)); done))) | exact Pick.refl))) ?_
              exact ⟨_, rfl, WR.zero⟩
          · have hd : ∀ c ∈ l, valc c < b := by rw [List.take_of_length_le (by omega)] at hall; exact hall
            clear hall
            repeat' first
              | apply cw_seq
              | (refine cw_region_id 6 ?_; (apply ol_val; exact rfl; apply stp_cmp; apply s_lss; exact rfl; exact rfl; all_goals (intro hc30; try (exfalso; (first | exact hc30 rfl | omega)))); all_goals (apply ol_nil))
              | (refine cw_region_id 11 ?_; (apply ol_as; exact rfl; exact rfl); (apply ol_nil))
              | (refine cw_region_id 12 ?_; (apply ol_mv; exact rfl; exact rfl); (apply ol_val; exact rfl; apply stp_pur; apply s_len_string; exact rfl; exact rfl; exact rfl); (apply ol_mv; exact rfl; exact rfl); (apply ol_nil))
              | (apply cw_cond_true; exact rfl; (first | exact rfl | assumption))
              | (apply cw_cond_false; exact rfl; (first | exact rfl | assumption))
              | apply cw_skip
              | apply cw_ret
              | apply cw_block
              | apply cw_exit
            refine cw_loopK (σ := RSt) [0, 1, 4, 41] (by (repeat (first | exact Keep.nil | (apply Keep.cons; exact rfl)))) (fun s => [(7, .slice (base s.r none) (nd W (num b (l.take s.i))) s.c), (42, .int .i64 s.i)]) (fun _ => View.of w) (fun s => [⟨s.r, flat (eK .u32) (wI (nd W (num b (l.take s.i))) (num b (l.take s.i))) ++ s.sp, 51⟩, ⟨some bk4, [.slice none 0 0], 25⟩, ⟨none, [], 51⟩]) (fun s => (s.i ≤ l.length ∧ nd W (num b (l.take s.i)) ≤ 64) ∧ SO s.r (nd W (num b (l.take s.i))) s.c (flat (eK .u32) (wI (nd W (num b (l.take s.i))) (num b (l.take s.i)))) s.sp 1) (fun s => l.length - s.i) ⟨0, none, 0, []⟩ (by dsimp only; rw [List.take_zero, num_nil, nd_zero]; (repeat (first | exact trivial | refine And.intro rfl ?_))) (View.le.refl _) (by dsimp only; rw [List.take_zero, num_nil, nd_zero, wI_zero]; (repeat (first | exact Pick.nil | (apply Pick.cons; (focus ((repeat (first | exact Spl.here | apply Spl.there)); done))) | exact Pick.refl))) ⟨⟨Nat.zero_le _, by dsimp only; rw [List.take_zero, num_nil, nd_zero]; omega⟩, by dsimp only; rw [List.take_zero, num_nil, nd_zero, wI_zero]; exact SO.nil 1⟩ ?_
            rintro ⟨i, r, cp, sp⟩ ⟨⟨hi, h64i⟩, so⟩
            dsimp only at hi h64i so
            dsimp only
            have hnk : nd W (num b (l.take i)) ≤ 1000 := nd_num (by omega) (num_all hd i) (by rw [List.length_take]; omega)
            by_cases hik : i < l.length
            · have hz := isB_getD hl i
              have hvs := fun (w' : World) => value_spec w' hz
              have hvb : valc (l.getD i 0) < b := by
                refine hd _ ?_
                rw [List.getD_eq_getElem?_getD, List.getElem?_eq_getElem hik]
                exact List.getElem_mem _
              have hs := num_take_succ (b := b) hik
              have hmono := num_take_le (b := b) (by omega) (l := l) (l.length - (i + 1)) (i + 1) (by omega)
              rw [hs] at hmono
              have hstep := fun {ts : Array TypeId} {n : Nat} {wE : World} {mu : List Nat} {fm : FM} {M : View} {rest : List OB} {K : Value → View → List OB → Prop} {d : Option Nat} {ty : TypeId} {pos : String} {af : Array Edge} {g : Option (Nat × Bool)} {x y z : Operand} hx hy hz => times_step (ts := ts) (n := n) (wE := wE) (mu := mu) (fm := fm) (M := M) (rest := rest) (K := K) (d := d) (ty := ty) (pos := pos) (af := af) (g := g) (x := x) (y := y) (z := z) (N := num b (l.take i)) (f := b) (p := valc (l.getD i 0)) hx hy hz (by omega) (by omega) rfl (by omega) so
              rw [← hs] at hstep hmono
              by_cases h64 : nd W (num b (l.take (i + 1))) ≤ 64
              · rw [decide_eq_true h64] at hstep
                repeat' first
                  | apply cw_seq
                  | (refine cw_region_id 13 ?_; (apply ol_val; exact rfl; apply stp_cmp; apply s_lss; exact rfl; exact rfl; all_goals (intro hc43; try (exfalso; (first | exact hc43 rfl | omega)))); all_goals (apply ol_nil))
                  | (refine cw_region_id 14 ?_; (apply ol_mv; exact rfl; exact rfl); (apply ol_as; exact rfl; exact rfl); (apply ol_nil))
                  | (refine cw_region_id 15 ?_; (apply ol_as; exact rfl; exact rfl); (apply ol_nil))
                  | (refine cw_region_id 16 ?_; (apply ol_mv; exact rfl; exact rfl); (apply ol_mv; exact rfl; exact rfl); (apply ol_mv; exact rfl; exact rfl); (apply ol_mv; exact rfl; exact rfl); (apply ol_val; exact rfl; apply stp_pur; apply s_indexS; exact rfl; exact rfl; exact us_9; omega; exact hat i); (apply ol_val; exact rfl; apply s_callv; exact rfl; exact gf_39; (intro w' hw'; exact hvs w')); (apply ol_val; exact rfl; apply hstep; exact rfl; exact rfl; exact rfl; intro r1 sp1 cap1 so1); all_goals (apply ol_mv; exact rfl; exact rfl); all_goals (apply ol_ex; exact rfl; exact rfl; exact rfl); all_goals (apply ol_ex; exact rfl; exact rfl; exact rfl); all_goals (apply ol_as; exact rfl; exact rfl); all_goals (apply ol_as; exact rfl; exact rfl); all_goals (apply ol_nil))
                  | (refine cw_region_id 17 ?_; (apply ol_mv; exact rfl; exact rfl); (apply ol_val; exact rfl; apply stp_pur; first | (apply s_not_t; exact rfl; (first | exact rfl | assumption)) | (apply s_not_f; exact rfl; (first | exact rfl | assumption)) | (apply s_not; exact rfl)); (apply ol_nil))
                  | (refine cw_region_id 19 ?_; (apply ol_val; exact rfl; apply stp_pur; apply s_add64; exact rfl; exact rfl; omega); (apply ol_mv; exact rfl; exact rfl); (apply ol_nil))
                  | (apply cw_cond_true; exact rfl; (first | exact rfl | assumption))
                  | (apply cw_cond_false; exact rfl; (first | exact rfl | assumption))
                  | apply cw_skip
                  | apply cw_ret
                  | apply cw_block
                  | apply cw_exit
                exact ⟨⟨i + 1, r1, cap1, sp1⟩, ⟨by (repeat (first | exact trivial | refine And.intro rfl ?_)), View.le.refl _, by (repeat (first | exact Pick.nil | (apply Pick.cons; (focus ((repeat (first | exact Spl.here | apply Spl.there)); done))) | exact Pick.refl)), ⟨⟨hik, h64⟩, so1⟩, by dsimp only; omega⟩⟩
              · have hbig : 64 < nd W (num b l) := by have := nd_mono (b := W) (by decide) hmono; omega
                rw [rdP_big h1 h4 hd hbig]
                rw [decide_eq_false h64] at hstep
                repeat' first
                  | apply cw_seq
                  | (refine cw_region_id 13 ?_; (apply ol_val; exact rfl; apply stp_cmp; apply s_lss; exact rfl; exact rfl; all_goals (intro hc43; try (exfalso; (first | exact hc43 rfl | omega)))); all_goals (apply ol_nil))
                  | (refine cw_region_id 14 ?_; (apply ol_mv; exact rfl; exact rfl); (apply ol_as; exact rfl; exact rfl); (apply ol_nil))
                  | (refine cw_region_id 15 ?_; (apply ol_as; exact rfl; exact rfl); (apply ol_nil))
                  | (refine cw_region_id 16 ?_; (apply ol_mv; exact rfl; exact rfl); (apply ol_mv; exact rfl; exact rfl); (apply ol_mv; exact rfl; exact rfl); (apply ol_mv; exact rfl; exact rfl); (apply ol_val; exact rfl; apply stp_pur; apply s_indexS; exact rfl; exact rfl; exact us_9; omega; exact hat i); (apply ol_val; exact rfl; apply s_callv; exact rfl; exact gf_39; (intro w' hw'; exact hvs w')); (apply ol_val; exact rfl; apply hstep; exact rfl; exact rfl; exact rfl; intro r1 sp1 cap1 so1); all_goals (apply ol_mv; exact rfl; exact rfl); all_goals (apply ol_ex; exact rfl; exact rfl; exact rfl); all_goals (apply ol_ex; exact rfl; exact rfl; exact rfl); all_goals (apply ol_as; exact rfl; exact rfl); all_goals (apply ol_as; exact rfl; exact rfl); all_goals (apply ol_nil))
                  | (refine cw_region_id 17 ?_; (apply ol_mv; exact rfl; exact rfl); (apply ol_val; exact rfl; apply stp_pur; first | (apply s_not_t; exact rfl; (first | exact rfl | assumption)) | (apply s_not_f; exact rfl; (first | exact rfl | assumption)) | (apply s_not; exact rfl)); (apply ol_nil))
                  | (refine cw_region_id 18 ?_; (apply ol_val; exact rfl; apply stp_pur; apply s_buildS; exact rfl; exact fs_25; exact zb_25; (focus ((repeat (first | exact rfl | constructor)); done))); (apply ol_eff; apply s_storeN; exact rfl; exact rfl; exact sz_25; exact rfl; exact rfl; (focus ((repeat constructor); done)); (focus ((repeat constructor); done))); (apply ol_as; exact rfl; exact rfl); (apply ol_nil))
                  | (apply cw_cond_true; exact rfl; (first | exact rfl | assumption))
                  | (apply cw_cond_false; exact rfl; (first | exact rfl | assumption))
                  | apply cw_skip
                  | apply cw_ret
                  | apply cw_block
                  | apply cw_exit
                refine ends [⟨none, [], 51⟩] (RVal.cellN rfl rfl rfl (RdN.own (by (repeat (first | exact Has.here | apply Has.there))) (GetN.cons rfl GetN.nil)) (RVal.tmp rfl RVal.nil)) (by (repeat (first | exact Pick.nil | (apply Pick.cons; (focus ((repeat (first | exact Spl.here | apply Spl.there)); done))) | exact Pick.refl))) ?_
                exact ⟨_, rfl, WR.zero⟩
            · have hfin : num b (l.take i) = num b l := by rw [List.take_of_length_le (by omega)]
              have hle : ¬ 64 < nd W (num b l) := by rw [← hfin]; omega
              rw [rdP_ok h1 h4 hd hle]
              rw [hfin] at so hnk ⊢
              have hcp := so.hle
              have kt : ∀ (w' : World), OB.ok ⟨r, flat (eK .u32) (wI (nd W (num b l)) (num b l)) ++ sp, 51⟩ w' → FnC Tryd.prog 27 [.slice (base r none) (nd W (num b l)) cp] w' (fun v _ => v = .agg [.slice (if nd W (num b l) = 0 then none else base r none) (nd W (num b l)) (if nd W (num b l) = 0 then 0 else cp)].toArray) := fun w' ho =>
                trimmed_spec (View.le.refl _) (nd_lt (by decide) _) (by omega) so.hle (SlA.ownW (A := none) ho so)
              repeat' first
                | apply cw_seq
                | (refine cw_region_id 13 ?_; (apply ol_val; exact rfl; apply stp_cmp; apply s_lss; exact rfl; exact rfl; all_goals (intro hc43; try (exfalso; (first | exact hc43 rfl | omega)))); all_goals (apply ol_nil))
                | (refine cw_region_id 20 ?_; (apply ol_mv; exact rfl; exact rfl); (apply ol_val; exact rfl; apply s_callv; exact rfl; exact gf_27; (intro w' hw'; exact kt w' (hw'.ok_ (by (repeat (first | exact Has.here | apply Has.there)))))); (apply ol_eff; apply s_storeN; exact rfl; exact rfl; exact sz_25; exact rfl; exact rfl; (focus ((repeat constructor); done)); (focus ((repeat constructor); done))); (apply ol_as; exact rfl; exact rfl); (apply ol_nil))
                | (apply cw_cond_true; exact rfl; (first | exact rfl | assumption))
                | (apply cw_cond_false; exact rfl; (first | exact rfl | assumption))
                | apply cw_skip
                | apply cw_ret
                | apply cw_block
                | apply cw_exit
              by_cases h0 : nd W (num b l) = 0
              · have hz : num b l = 0 := (nd_zero_iff (by decide)).1 h0
                refine ends [⟨none, [], 51⟩] (RVal.cellN rfl rfl rfl (RdN.own (by (repeat (first | exact Has.here | apply Has.there))) (GetN.cons rfl GetN.nil)) (RVal.tmp rfl RVal.nil)) (by (repeat (first | exact Pick.nil | (apply Pick.cons; (focus ((repeat (first | exact Spl.here | apply Spl.there)); done))) | exact Pick.refl))) ?_
                rw [h0, if_pos rfl, if_pos rfl, hz]
                refine ⟨_, rfl, ?_⟩
                have := WR.zero
                rw [nd_zero] at this
                dsimp only
                rw [nd_zero]
                exact this
              · refine ends [⟨r, flat (eK .u32) (wI (nd W (num b l)) (num b l)) ++ sp, 51⟩] (RVal.cellN rfl rfl rfl (RdN.own (by (repeat (first | exact Has.here | apply Has.there))) (GetN.cons rfl GetN.nil)) (RVal.tmp rfl RVal.nil)) (by (repeat (first | exact Pick.nil | (apply Pick.cons; (focus ((repeat (first | exact Spl.here | apply Spl.there)); done))) | exact Pick.refl))) ?_
                rw [if_neg h0, if_neg h0]
                exact ⟨_, rfl, r, none, cp, sp, rfl, rfl, so⟩
end Go.Proofs.YtjaeblkgjbncmaaDoor

/-
  Texts read: the reference's way; Parse and ParseHex.
-/
namespace Go.Proofs.YtjaeblkgjbncmaaDoor
set_option maxRecDepth 20000
set_option linter.unusedSimpArgs false
set_option linter.unusedVariables false
open Go Go.Fw
attribute [local irreducible] CW OL OD FX Stp FnC FnV Ret wI vd strOf ca mid zmid valc num rdP dv
set_option maxHeartbeats 800000
structure RSA where
  i : Nat
  r : Option Nat
  A : Option Addr
  c : Nat
  sp : List Value
theorem rparse_spec (w : World) {b : Nat} (hb : b = 10 ∨ b = 16) {l : List Int} (hl : ∀ x ∈ l, 0 ≤ x ∧ x ≤ 255) :
    FnC Tryd.prog 19 [.string (strOf l), .int .u64 b] w (NRs (rdP b l)) := by
  refine enterF (M := View.of w) Tryd.func19 rfl rfl rfl rfl (View.le.refl _) ?_
  have hsz := strOf_size l
  have he := emptyS hl
  refine cw_none 51 ?_
  refine cw_none 51 ?_
  by_cases h1 : 1000 < l.length
  · rw [rdP_long h1]
    repeat' first
      | apply cw_seq
      | (refine cw_region_id 0 ?_; (apply ol_val; exact rfl; apply s_alloc; exact zb_25; (focus ((repeat constructor); done)); intro bk4); (apply ol_as; exact rfl; exact rfl); (apply ol_nil))
      | (refine cw_region_id 1 ?_; (apply ol_mv; exact rfl; exact rfl); (apply ol_val; exact rfl; apply stp_pur; apply s_len_string; exact rfl; exact rfl; exact rfl); (apply ol_val; exact rfl; apply stp_cmp; apply s_gtr; exact rfl; exact rfl; all_goals (intro hc15; try (exfalso; (first | exact hc15 rfl | omega)))); all_goals (apply ol_nil))
      | (refine cw_region_id 2 ?_; (apply ol_val; exact rfl; apply stp_pur; apply s_buildS; exact rfl; exact fs_25; exact zb_25; (focus ((repeat (first | exact rfl | constructor)); done))); (apply ol_eff; apply s_storeN; exact rfl; exact rfl; exact sz_25; exact rfl; exact rfl; (focus ((repeat constructor); done)); (focus ((repeat constructor); done))); (apply ol_as; exact rfl; exact rfl); (apply ol_nil))
      | (apply cw_cond_true; exact rfl; (first | exact rfl | assumption))
      | (apply cw_cond_false; exact rfl; (first | exact rfl | assumption))
      | apply cw_skip
      | apply cw_ret
      | apply cw_block
      | apply cw_exit
    refine ends [⟨none, [], 51⟩] (RVal.cellN rfl rfl rfl (RdN.own (by (repeat (first | exact Has.here | apply Has.there))) (GetN.cons rfl GetN.nil)) (RVal.tmp rfl RVal.nil)) (by (repeat (first | exact Pick.nil | (apply Pick.cons; (focus ((repeat (first | exact Spl.here | apply Spl.there)); done))) | exact Pick.refl))) ?_
    exact ⟨_, rfl, WR.zero⟩
  · have hat := fun (i : Nat) => strOf_at (i := i) hl
    by_cases h2 : l = []
    · rw [rdP_form h1 (.inl h2)]
      rw [decide_eq_true h2] at he
      repeat' first
        | apply cw_seq
        | (refine cw_region_id 0 ?_; (apply ol_val; exact rfl; apply s_alloc; exact zb_25; (focus ((repeat constructor); done)); intro bk4); (apply ol_as; exact rfl; exact rfl); (apply ol_nil))
        | (refine cw_region_id 1 ?_; (apply ol_mv; exact rfl; exact rfl); (apply ol_val; exact rfl; apply stp_pur; apply s_len_string; exact rfl; exact rfl; exact rfl); (apply ol_val; exact rfl; apply stp_cmp; apply s_gtr; exact rfl; exact rfl; all_goals (intro hc15; try (exfalso; (first | exact hc15 rfl | omega)))); all_goals (apply ol_nil))
        | (refine cw_region_id 3 ?_; (apply ol_mv; exact rfl; exact rfl); (apply ol_val; exact rfl; apply stp_pur; apply s_eqlStr; exact rfl; exact rfl); (apply ol_mv; exact rfl; exact rfl); (first | (apply ol_gskip; exact rfl; exact rfl; (first | exact rfl | assumption); exact rfl) | (apply ol_gval; exact rfl; exact rfl; exact rfl; (first | exact rfl | assumption); apply stp_pur; apply s_move; exact rfl)); (apply ol_gskip; exact rfl; exact rfl; (first | exact rfl | assumption); exact rfl); (first | (apply ol_gskip; exact rfl; exact rfl; (first | exact rfl | assumption); exact rfl) | (apply ol_gval; exact rfl; exact rfl; exact rfl; (first | exact rfl | assumption); apply stp_cmp; apply s_eql; exact rfl; exact rfl; all_goals (intro hc22; try (exfalso; (first | exact hc22 rfl | omega))))); all_goals (first | (apply ol_gskip; exact rfl; exact rfl; (first | exact rfl | assumption); exact rfl) | (apply ol_gval; exact rfl; exact rfl; exact rfl; (first | exact rfl | assumption); apply stp_pur; apply s_move; exact rfl)); all_goals (first | (apply ol_gskip; exact rfl; exact rfl; (first | exact rfl | assumption); exact rfl) | (apply ol_gskipu; exact rfl; exact rfl; exact rfl) | (apply ol_gval; exact rfl; exact rfl; exact rfl; (first | exact rfl | assumption); apply stp_pur; apply s_move; exact rfl)); all_goals (first | (apply ol_gskip; exact rfl; exact rfl; (first | exact rfl | assumption); exact rfl) | (apply ol_gskipu; exact rfl; exact rfl; exact rfl) | (apply ol_gval; exact rfl; exact rfl; exact rfl; (first | exact rfl | assumption); apply stp_pur; apply s_len_string; exact rfl; exact rfl; exact rfl)); all_goals (first | (apply ol_gskip; exact rfl; exact rfl; (first | exact rfl | assumption); exact rfl) | (apply ol_gskipu; exact rfl; exact rfl; exact rfl) | (apply ol_gval; exact rfl; exact rfl; exact rfl; (first | exact rfl | assumption); apply stp_cmp; apply s_gtr; exact rfl; exact rfl; all_goals (intro hc26; try (exfalso; (first | exact hc26 rfl | omega))))); all_goals (first | (apply ol_gskip; exact rfl; exact rfl; (first | exact rfl | assumption); exact rfl) | (apply ol_gval; exact rfl; exact rfl; exact rfl; (first | exact rfl | assumption); apply stp_pur; first | (apply s_pick_t; exact rfl; (first | exact rfl | assumption); exact rfl) | (apply s_pick_f; exact rfl; (first | exact rfl | assumption); exact rfl))); all_goals (apply ol_val; exact rfl; apply stp_pur; first | (apply s_pick_t; exact rfl; (first | exact rfl | assumption); exact rfl) | (apply s_pick_f; exact rfl; (first | exact rfl | assumption); exact rfl)); all_goals (apply ol_nil))
        | (refine cw_region_id 4 ?_; (apply ol_val; exact rfl; apply stp_pur; apply s_buildS; exact rfl; exact fs_25; exact zb_25; (focus ((repeat (first | exact rfl | constructor)); done))); (apply ol_eff; apply s_storeN; exact rfl; exact rfl; exact sz_25; exact rfl; exact rfl; (focus ((repeat constructor); done)); (focus ((repeat constructor); done))); (apply ol_as; exact rfl; exact rfl); (apply ol_nil))
        | (apply cw_cond_true; exact rfl; (first | exact rfl | assumption))
        | (apply cw_cond_false; exact rfl; (first | exact rfl | assumption))
        | apply cw_skip
        | apply cw_ret
        | apply cw_block
        | apply cw_exit
      refine ends [⟨none, [], 51⟩] (RVal.cellN rfl rfl rfl (RdN.own (by (repeat (first | exact Has.here | apply Has.there))) (GetN.cons rfl GetN.nil)) (RVal.tmp rfl RVal.nil)) (by (repeat (first | exact Pick.nil | (apply Pick.cons; (focus ((repeat (first | exact Spl.here | apply Spl.there)); done))) | exact Pick.refl))) ?_
      exact ⟨_, rfl, WR.zero⟩
    · rw [decide_eq_false h2] at he
      have hpos : 0 < l.length := List.length_pos_iff.2 h2
      have hh := head_get hpos
      by_cases h3 : l.getD 0 0 = 48 ∧ 1 < l.length
      · rw [rdP_form h1 (.inr ⟨by rw [hh, h3.1], h3.2⟩)]
        repeat' first
          | apply cw_seq
          | (refine cw_region_id 0 ?_; (apply ol_val; exact rfl; apply s_alloc; exact zb_25; (focus ((repeat constructor); done)); intro bk4); (apply ol_as; exact rfl; exact rfl); (apply ol_nil))
          | (refine cw_region_id 1 ?_; (apply ol_mv; exact rfl; exact rfl); (apply ol_val; exact rfl; apply stp_pur; apply s_len_string; exact rfl; exact rfl; exact rfl); (apply ol_val; exact rfl; apply stp_cmp; apply s_gtr; exact rfl; exact rfl; all_goals (intro hc15; try (exfalso; (first | exact hc15 rfl | omega)))); all_goals (apply ol_nil))
          | (refine cw_region_id 3 ?_; (apply ol_mv; exact rfl; exact rfl); (apply ol_val; exact rfl; apply stp_pur; apply s_eqlStr; exact rfl; exact rfl); (apply ol_mv; exact rfl; exact rfl); (first | (apply ol_gskip; exact rfl; exact rfl; (first | exact rfl | assumption); exact rfl) | (apply ol_gval; exact rfl; exact rfl; exact rfl; (first | exact rfl | assumption); apply stp_pur; apply s_move; exact rfl)); (first | (apply ol_gskip; exact rfl; exact rfl; (first | exact rfl | assumption); exact rfl) | (apply ol_gval; exact rfl; exact rfl; exact rfl; (first | exact rfl | assumption); apply stp_pur; apply s_indexS; exact rfl; exact rfl; exact us_9; omega; exact hat 0)); (first | (apply ol_gskip; exact rfl; exact rfl; (first | exact rfl | assumption); exact rfl) | (apply ol_gval; exact rfl; exact rfl; exact rfl; (first | exact rfl | assumption); apply stp_cmp; apply s_eql; exact rfl; exact rfl; all_goals (intro hc22; try (exfalso; (first | exact hc22 rfl | omega))))); all_goals (first | (apply ol_gskip; exact rfl; exact rfl; (first | exact rfl | assumption); exact rfl) | (apply ol_gval; exact rfl; exact rfl; exact rfl; (first | exact rfl | assumption); apply stp_pur; apply s_move; exact rfl)); all_goals (first | (apply ol_gskip; exact rfl; exact rfl; (first | exact rfl | assumption); exact rfl) | (apply ol_gskipu; exact rfl; exact rfl; exact rfl) | (apply ol_gval; exact rfl; exact rfl; exact rfl; (first | exact rfl | assumption); apply stp_pur; apply s_move; exact rfl)); all_goals (first | (apply ol_gskip; exact rfl; exact rfl; (first | exact rfl | assumption); exact rfl) | (apply ol_gskipu; exact rfl; exact rfl; exact rfl) | (apply ol_gval; exact rfl; exact rfl; exact rfl; (first | exact rfl | assumption); apply stp_pur; apply s_len_string; exact rfl; exact rfl; exact rfl)); all_goals (first | (apply ol_gskip; exact rfl; exact rfl; (first | exact rfl | assumption); exact rfl) | (apply ol_gskipu; exact rfl; exact rfl; exact rfl) | (apply ol_gval; exact rfl; exact rfl; exact rfl; (first | exact rfl | assumption); apply stp_cmp; apply s_gtr; exact rfl; exact rfl; all_goals (intro hc26; try (exfalso; (first | exact hc26 rfl | omega))))); all_goals (first | (apply ol_gskip; exact rfl; exact rfl; (first | exact rfl | assumption); exact rfl) | (apply ol_gval; exact rfl; exact rfl; exact rfl; (first | exact rfl | assumption); apply stp_pur; first | (apply s_pick_t; exact rfl; (first | exact rfl | assumption); exact rfl) | (apply s_pick_f; exact rfl; (first | exact rfl | assumption); exact rfl))); all_goals (apply ol_val; exact rfl; apply stp_pur; first | (apply s_pick_t; exact rfl; (first | exact rfl | assumption); exact rfl) | (apply s_pick_f; exact rfl; (first | exact rfl | assumption); exact rfl)); all_goals (apply ol_nil))
          | (refine cw_region_id 4 ?_; (apply ol_val; exact rfl; apply stp_pur; apply s_buildS; exact rfl; exact fs_25; exact zb_25; (focus ((repeat (first | exact rfl | constructor)); done))); (apply ol_eff; apply s_storeN; exact rfl; exact rfl; exact sz_25; exact rfl; exact rfl; (focus ((repeat constructor); done)); (focus ((repeat constructor); done))); (apply ol_as; exact rfl; exact rfl); (apply ol_nil))
          | (apply cw_cond_true; exact rfl; (first | exact rfl | assumption))
          | (apply cw_cond_false; exact rfl; (first | exact rfl | assumption))
          | apply cw_skip
          | apply cw_ret
          | apply cw_block
          | apply cw_exit
        refine ends [⟨none, [], 51⟩] (RVal.cellN rfl rfl rfl (RdN.own (by (repeat (first | exact Has.here | apply Has.there))) (GetN.cons rfl GetN.nil)) (RVal.tmp rfl RVal.nil)) (by (repeat (first | exact Pick.nil | (apply Pick.cons; (focus ((repeat (first | exact Spl.here | apply Spl.there)); done))) | exact Pick.refl))) ?_
        exact ⟨_, rfl, WR.zero⟩
      · have h4 : ¬ (l = [] ∨ l.head? = some 48 ∧ 1 < l.length) := fun h => by
          rcases h with h | h
          · exact h2 h
          · rw [hh] at h
            exact h3 ⟨Option.some.inj h.1, h.2⟩
        repeat' first
          | apply cw_seq
          | (refine cw_region_id 0 ?_; (apply ol_val; exact rfl; apply s_alloc; exact zb_25; (focus ((repeat constructor); done)); intro bk4); (apply ol_as; exact rfl; exact rfl); (apply ol_nil))
          | (refine cw_region_id 1 ?_; (apply ol_mv; exact rfl; exact rfl); (apply ol_val; exact rfl; apply stp_pur; apply s_len_string; exact rfl; exact rfl; exact rfl); (apply ol_val; exact rfl; apply stp_cmp; apply s_gtr; exact rfl; exact rfl; all_goals (intro hc15; try (exfalso; (first | exact hc15 rfl | omega)))); all_goals (apply ol_nil))
          | (refine cw_region_id 3 ?_; (apply ol_mv; exact rfl; exact rfl); (apply ol_val; exact rfl; apply stp_pur; apply s_eqlStr; exact rfl; exact rfl); (apply ol_mv; exact rfl; exact rfl); (first | (apply ol_gskip; exact rfl; exact rfl; (first | exact rfl | assumption); exact rfl) | (apply ol_gval; exact rfl; exact rfl; exact rfl; (first | exact rfl | assumption); apply stp_pur; apply s_move; exact rfl)); (first | (apply ol_gskip; exact rfl; exact rfl; (first | exact rfl | assumption); exact rfl) | (apply ol_gval; exact rfl; exact rfl; exact rfl; (first | exact rfl | assumption); apply stp_pur; apply s_indexS; exact rfl; exact rfl; exact us_9; omega; exact hat 0)); (first | (apply ol_gskip; exact rfl; exact rfl; (first | exact rfl | assumption); exact rfl) | (apply ol_gval; exact rfl; exact rfl; exact rfl; (first | exact rfl | assumption); apply stp_cmp; apply s_eql; exact rfl; exact rfl; all_goals (intro hc22; try (exfalso; (first | exact hc22 rfl | omega))))); all_goals (first | (apply ol_gskip; exact rfl; exact rfl; (first | exact rfl | assumption); exact rfl) | (apply ol_gval; exact rfl; exact rfl; exact rfl; (first | exact rfl | assumption); apply stp_pur; apply s_move; exact rfl)); all_goals (first | (apply ol_gskip; exact rfl; exact rfl; (first | exact rfl | assumption); exact rfl) | (apply ol_gskipu; exact rfl; exact rfl; exact rfl) | (apply ol_gval; exact rfl; exact rfl; exact rfl; (first | exact rfl | assumption); apply stp_pur; apply s_move; exact rfl)); all_goals (first | (apply ol_gskip; exact rfl; exact rfl; (first | exact rfl | assumption); exact rfl) | (apply ol_gskipu; exact rfl; exact rfl; exact rfl) | (apply ol_gval; exact rfl; exact rfl; exact rfl; (first | exact rfl | assumption); apply stp_pur; apply s_len_string; exact rfl; exact rfl; exact rfl)); all_goals (first | (apply ol_gskip; exact rfl; exact rfl; (first | exact rfl | assumption); exact rfl) | (apply ol_gskipu; exact rfl; exact rfl; exact rfl) | (apply ol_gval; exact rfl; exact rfl; exact rfl; (first | exact rfl | assumption); apply stp_cmp; apply s_gtr; exact rfl; exact rfl; all_goals (intro hc26; try (exfalso; (first | exact hc26 rfl | omega))))); all_goals (first | (apply ol_gskip; exact rfl; exact rfl; (first | exact rfl | assumption); exact rfl) | (apply ol_gval; exact rfl; exact rfl; exact rfl; (first | exact rfl | assumption); apply stp_pur; first | (apply s_pick_t; exact rfl; (first | exact rfl | assumption); exact rfl) | (apply s_pick_f; exact rfl; (first | exact rfl | assumption); exact rfl))); all_goals (apply ol_val; exact rfl; apply stp_pur; first | (apply s_pick_t; exact rfl; (first | exact rfl | assumption); exact rfl) | (apply s_pick_f; exact rfl; (first | exact rfl | assumption); exact rfl)); all_goals (apply ol_nil))
          | (refine cw_region_id 5 ?_; (apply ol_as; exact rfl; exact rfl); (apply ol_nil))
          | (apply cw_cond_true; exact rfl; (first | exact rfl | assumption))
          | (apply cw_cond_false; exact rfl; (first | exact rfl | assumption))
          | apply cw_skip
          | apply cw_ret
          | apply cw_block
          | apply cw_exit
        all_goals
          clear h3 hh
          refine cw_loopK (σ := Nat) [0, 1, 4] (by (repeat (first | exact Keep.nil | (apply Keep.cons; exact rfl)))) (fun i => [(6, .int .i64 i)]) (fun _ => View.of w) (fun _ => [⟨some bk4, [.slice none 0 0], 25⟩, ⟨none, [], 51⟩, ⟨none, [], 51⟩]) (fun i => i ≤ l.length ∧ ∀ c ∈ l.take i, valc c < b) (fun i => l.length - i) 0 (by (repeat (first | exact trivial | refine And.intro rfl ?_))) (View.le.refl _) (by (repeat (first | exact Pick.nil | (apply Pick.cons; (focus ((repeat (first | exact Spl.here | apply Spl.there)); done))) | exact Pick.refl))) ⟨Nat.zero_le _, fun c hc => by rw [List.take_zero] at hc; cases hc⟩ ?_
          rintro i ⟨hi, hall⟩
          by_cases hik : i < l.length
          · have hz := isB_getD hl i
            by_cases hv : valc (l.getD i 0) < b
            · have hnext := all_take_succ hik hall hv
              have hvs := fun (w' : World) => rvalue_spec w' hb hz
              rw [decide_eq_true hv] at hvs
              repeat' first
                | apply cw_seq
                | (refine cw_region_id 6 ?_; (apply ol_mv; exact rfl; exact rfl); (apply ol_mv; exact rfl; exact rfl); (apply ol_val; exact rfl; apply stp_pur; apply s_len_string; exact rfl; exact rfl; exact rfl); (apply ol_val; exact rfl; apply stp_cmp; apply s_lss; exact rfl; exact rfl; all_goals (intro hc33; try (exfalso; (first | exact hc33 rfl | omega)))); all_goals (apply ol_nil))
                | (refine cw_region_id 8 ?_; (apply ol_mv; exact rfl; exact rfl); (apply ol_mv; exact rfl; exact rfl); (apply ol_val; exact rfl; apply stp_pur; apply s_indexS; exact rfl; exact rfl; exact us_9; omega; exact hat i); (apply ol_mv; exact rfl; exact rfl); (apply ol_val; exact rfl; apply s_callv; exact rfl; exact gf_35; (intro w' hw'; exact hvs w')); (apply ol_mv; exact rfl; exact rfl); (apply ol_ex; exact rfl; exact rfl; exact rfl); (apply ol_ex; exact rfl; exact rfl; exact rfl); (apply ol_as; exact rfl; exact rfl); (apply ol_as; exact rfl; exact rfl); (apply ol_nil))
                | (refine cw_region_id 9 ?_; (apply ol_mv; exact rfl; exact rfl); (apply ol_val; exact rfl; apply stp_pur; first | (apply s_not_t; exact rfl; (first | exact rfl | assumption)) | (apply s_not_f; exact rfl; (first | exact rfl | assumption)) | (apply s_not; exact rfl)); (apply ol_nil))
                | (refine cw_region_id 7 ?_; (apply ol_mv; exact rfl; exact rfl); (apply ol_val; exact rfl; apply stp_pur; apply s_add64; exact rfl; exact rfl; omega); (apply ol_as; exact rfl; exact rfl); (apply ol_nil))
                | (apply cw_cond_true; exact rfl; (first | exact rfl | assumption))
                | (apply cw_cond_false; exact rfl; (first | exact rfl | assumption))
                | apply cw_skip
                | apply cw_ret
                | apply cw_block
                | apply cw_exit
              exact ⟨i + 1, ⟨by (repeat (first | exact trivial | refine And.intro rfl ?_)), View.le.refl _, by (repeat (first | exact Pick.nil | (apply Pick.cons; (focus ((repeat (first | exact Spl.here | apply Spl.there)); done))) | exact Pick.refl)), ⟨hik, hnext⟩, by omega⟩⟩
            · rw [rdP_dig h1 h4 hik hv]
              have hvs := fun (w' : World) => rvalue_spec w' hb hz
              rw [decide_eq_false hv] at hvs
              repeat' first
                | apply cw_seq
                | (refine cw_region_id 6 ?_; (apply ol_mv; exact rfl; exact rfl); (apply ol_mv; exact rfl; exact rfl); (apply ol_val; exact rfl; apply stp_pur; apply s_len_string; exact rfl; exact rfl; exact rfl); (apply ol_val; exact rfl; apply stp_cmp; apply s_lss; exact rfl; exact rfl; all_goals (intro hc33; try (exfalso; (first | exact hc33 rfl | omega)))); all_goals (apply ol_nil))
                | (refine cw_region_id 8 ?_; (apply ol_mv; exact rfl; exact rfl); (apply ol_mv; exact rfl; exact rfl); (apply ol_val; exact rfl; apply stp_pur; apply s_indexS; exact rfl; exact rfl; exact us_9; omega; exact hat i); (apply ol_mv; exact rfl; exact rfl); (apply ol_val; exact rfl; apply s_callv; exact rfl; exact gf_35; (intro w' hw'; exact hvs w')); (apply ol_mv; exact rfl; exact rfl); (apply ol_ex; exact rfl; exact rfl; exact rfl); (apply ol_ex; exact rfl; exact rfl; exact rfl); (apply ol_as; exact rfl; exact rfl); (apply ol_as; exact rfl; exact rfl); (apply ol_nil))
                | (refine cw_region_id 9 ?_; (apply ol_mv; exact rfl; exact rfl); (apply ol_val; exact rfl; apply stp_pur; first | (apply s_not_t; exact rfl; (first | exact rfl | assumption)) | (apply s_not_f; exact rfl; (first | exact rfl | assumption)) | (apply s_not; exact rfl)); (apply ol_nil))
                | (refine cw_region_id 10 ?_; (apply ol_val; exact rfl; apply stp_pur; apply s_buildS; exact rfl; exact fs_25; exact zb_25; (focus ((repeat (first | exact rfl | constructor)); done))); (apply ol_eff; apply s_storeN; exact rfl; exact rfl; exact sz_25; exact rfl; exact rfl; (focus ((repeat constructor); done)); (focus ((repeat constructor); done))); (apply ol_as; exact rfl; exact rfl); (apply ol_nil))
                | (apply cw_cond_true; exact rfl; (first | exact rfl | assumption))
                | (apply cw_cond_false; exact rfl; (first | exact rfl | assumption))
                | apply cw_skip
                | apply cw_ret
                | apply cw_block
                | apply cw_exit
              refine ends [⟨none, [], 51⟩] (RVal.cellN rfl rfl rfl (RdN.own (by (repeat (first | exact Has.here | apply Has.there))) (GetN.cons rfl GetN.nil)) (RVal.tmp rfl RVal.nil)) (by (repeat (first | exact Pick.nil | (apply Pick.cons; (focus ((repeat (first | exact Spl.here | apply Spl.there)); done))) | exact Pick.refl))) ?_
              exact ⟨_, rfl, WR.zero⟩
          · have hd : ∀ c ∈ l, valc c < b := by rw [List.take_of_length_le (by omega)] at hall; exact hall
            clear hall
            repeat' first
              | apply cw_seq
              | (refine cw_region_id 6 ?_; (apply ol_mv; exact rfl; exact rfl); (apply ol_mv; exact rfl; exact rfl); (apply ol_val; exact rfl; apply stp_pur; apply s_len_string; exact rfl; exact rfl; exact rfl); (apply ol_val; exact rfl; apply stp_cmp; apply s_lss; exact rfl; exact rfl; all_goals (intro hc33; try (exfalso; (first | exact hc33 rfl | omega)))); all_goals (apply ol_nil))
              | (refine cw_region_id 11 ?_; (apply ol_as; exact rfl; exact rfl); (apply ol_nil))
              | (refine cw_region_id 12 ?_; (apply ol_as; exact rfl; exact rfl); (apply ol_nil))
              | (apply cw_cond_true; exact rfl; (first | exact rfl | assumption))
              | (apply cw_cond_false; exact rfl; (first | exact rfl | assumption))
              | apply cw_skip
              | apply cw_ret
              | apply cw_block
              | apply cw_exit
            refine cw_loopK (σ := RSA) [0, 1, 4] (by (repeat (first | exact Keep.nil | (apply Keep.cons; exact rfl)))) (fun s => [(9, .slice (base s.r s.A) (nd W (num b (l.take s.i))) s.c), (10, .int .i64 s.i)]) (fun _ => View.of w) (fun s => [⟨s.r, flat (eK .u32) (wI (nd W (num b (l.take s.i))) (num b (l.take s.i))) ++ s.sp, 51⟩, ⟨some bk4, [.slice none 0 0], 25⟩, ⟨none, [], 51⟩]) (fun s => s.i ≤ l.length ∧ SO s.r (nd W (num b (l.take s.i))) s.c (flat (eK .u32) (wI (nd W (num b (l.take s.i))) (num b (l.take s.i)))) s.sp 1) (fun s => l.length - s.i) ⟨0, none, none, 0, []⟩ (by dsimp only; rw [List.take_zero, num_nil, nd_zero]; (repeat (first | exact trivial | refine And.intro rfl ?_))) (View.le.refl _) (by dsimp only; rw [List.take_zero, num_nil, nd_zero, wI_zero]; (repeat (first | exact Pick.nil | (apply Pick.cons; (focus ((repeat (first | exact Spl.here | apply Spl.there)); done))) | exact Pick.refl))) ⟨Nat.zero_le _, by dsimp only; rw [List.take_zero, num_nil, nd_zero, wI_zero]; exact SO.nil 1⟩ ?_
            rintro ⟨i, r, A, cp, sp⟩ ⟨hi, so⟩
            dsimp only at hi so
            dsimp only
            have hnk : nd W (num b (l.take i)) ≤ 1000 := nd_num (by omega) (num_all hd i) (by rw [List.length_take]; omega)
            by_cases hik : i < l.length
            · have hz := isB_getD hl i
              have hvb : valc (l.getD i 0) < b := by
                refine hd _ ?_
                rw [List.getD_eq_getElem?_getD, List.getElem?_eq_getElem hik]
                exact List.getElem_mem _
              have hvs := fun (w' : World) => rvalue_spec w' hb hz
              have hdv : dv b (l.getD i 0) = valc (l.getD i 0) := by unfold dv; rw [if_pos hvb]
              rw [hdv] at hvs
              have hs := num_take_succ (b := b) hik
              have kt : ∀ (w' : World), OB.ok ⟨r, flat (eK .u32) (wI (nd W (num b (l.take i))) (num b (l.take i))) ++ sp, 51⟩ w' → FnC Tryd.prog 36 [.slice (base r A) (nd W (num b (l.take i))) cp, .int .u64 b, .int .u64 (valc (l.getD i 0) : Nat)] w' (WR (nd W (num b (l.take (i + 1)))) (num b (l.take (i + 1)))) := fun w' ho => by
                have := rtimes_spec (View.le.refl _) (N := num b (l.take i)) (f := b) (p := valc (l.getD i 0)) (c := cp) (by omega) (by omega) rfl (by omega) (SlA.ownW (A := A) ho so)
                rwa [← hs] at this
              unfold WR at kt
              repeat' first
                | apply cw_seq
                | (refine cw_region_id 13 ?_; (apply ol_mv; exact rfl; exact rfl); (apply ol_mv; exact rfl; exact rfl); (apply ol_val; exact rfl; apply stp_pur; apply s_len_string; exact rfl; exact rfl; exact rfl); (apply ol_val; exact rfl; apply stp_cmp; apply s_lss; exact rfl; exact rfl; all_goals (intro hc50; try (exfalso; (first | exact hc50 rfl | omega)))); all_goals (apply ol_nil))
                | (refine cw_region_id 15 ?_; (apply ol_mv; exact rfl; exact rfl); (apply ol_mv; exact rfl; exact rfl); (apply ol_val; exact rfl; apply stp_pur; apply s_indexS; exact rfl; exact rfl; exact us_9; omega; exact hat i); (apply ol_mv; exact rfl; exact rfl); (apply ol_val; exact rfl; apply s_callv; exact rfl; exact gf_35; (intro w' hw'; exact hvs w')); (apply ol_mv; exact rfl; exact rfl); (apply ol_ex; exact rfl; exact rfl; exact rfl); (apply ol_ex; exact rfl; exact rfl; exact rfl); (apply ol_as; exact rfl; exact rfl); (apply ol_as; exact rfl; exact rfl); (apply ol_nil))
                | (refine cw_region_id 16 ?_; (apply ol_mv; exact rfl; exact rfl); (apply ol_mv; exact rfl; exact rfl); (apply ol_mv; exact rfl; exact rfl); (apply ol_val; exact rfl; apply s_call; exact rfl; exact gf_36; (intro w' hw'; exact kt w' (hw'.ok_ (by (repeat (first | exact Has.here | apply Has.there))))); ((intro v new h; obtain ⟨r1, A1, cap1, sp1, rfl, rfl, so1⟩ := h))); (apply ol_as; exact rfl; exact rfl); (apply ol_nil))
                | (refine cw_region_id 14 ?_; (apply ol_mv; exact rfl; exact rfl); (apply ol_val; exact rfl; apply stp_pur; apply s_add64; exact rfl; exact rfl; omega); (apply ol_as; exact rfl; exact rfl); (apply ol_nil))
                | (apply cw_cond_true; exact rfl; (first | exact rfl | assumption))
                | (apply cw_cond_false; exact rfl; (first | exact rfl | assumption))
                | apply cw_skip
                | apply cw_ret
                | apply cw_block
                | apply cw_exit
              exact ⟨⟨i + 1, r1, A1, cap1, sp1⟩, ⟨by (repeat (first | exact trivial | refine And.intro rfl ?_)), View.le.refl _, by (repeat (first | exact Pick.nil | (apply Pick.cons; (focus ((repeat (first | exact Spl.here | apply Spl.there)); done))) | exact Pick.refl)), ⟨hik, so1⟩, by dsimp only; omega⟩⟩
            · have hfin : num b (l.take i) = num b l := by rw [List.take_of_length_le (by omega)]
              rw [hfin] at so hnk ⊢
              by_cases hle : 64 < nd W (num b l)
              · rw [rdP_big h1 h4 hd hle]
                repeat' first
                  | apply cw_seq
                  | (refine cw_region_id 13 ?_; (apply ol_mv; exact rfl; exact rfl); (apply ol_mv; exact rfl; exact rfl); (apply ol_val; exact rfl; apply stp_pur; apply s_len_string; exact rfl; exact rfl; exact rfl); (apply ol_val; exact rfl; apply stp_cmp; apply s_lss; exact rfl; exact rfl; all_goals (intro hc50; try (exfalso; (first | exact hc50 rfl | omega)))); all_goals (apply ol_nil))
                  | (refine cw_region_id 17 ?_; (apply ol_mv; exact rfl; exact rfl); (apply ol_val; exact rfl; apply stp_pur; apply s_len; exact rfl; exact el_23); (apply ol_val; exact rfl; apply stp_cmp; apply s_gtr; exact rfl; exact rfl; all_goals (intro hc67; try (exfalso; (first | exact hc67 rfl | omega)))); all_goals (apply ol_nil))
                  | (refine cw_region_id 18 ?_; (apply ol_val; exact rfl; apply stp_pur; apply s_buildS; exact rfl; exact fs_25; exact zb_25; (focus ((repeat (first | exact rfl | constructor)); done))); (apply ol_eff; apply s_storeN; exact rfl; exact rfl; exact sz_25; exact rfl; exact rfl; (focus ((repeat constructor); done)); (focus ((repeat constructor); done))); (apply ol_as; exact rfl; exact rfl); (apply ol_nil))
                  | (apply cw_cond_true; exact rfl; (first | exact rfl | assumption))
                  | (apply cw_cond_false; exact rfl; (first | exact rfl | assumption))
                  | apply cw_skip
                  | apply cw_ret
                  | apply cw_block
                  | apply cw_exit
                refine ends [⟨none, [], 51⟩] (RVal.cellN rfl rfl rfl (RdN.own (by (repeat (first | exact Has.here | apply Has.there))) (GetN.cons rfl GetN.nil)) (RVal.tmp rfl RVal.nil)) (by (repeat (first | exact Pick.nil | (apply Pick.cons; (focus ((repeat (first | exact Spl.here | apply Spl.there)); done))) | exact Pick.refl))) ?_
                exact ⟨_, rfl, WR.zero⟩
              · rw [rdP_ok h1 h4 hd hle]
                repeat' first
                  | apply cw_seq
                  | (refine cw_region_id 13 ?_; (apply ol_mv; exact rfl; exact rfl); (apply ol_mv; exact rfl; exact rfl); (apply ol_val; exact rfl; apply stp_pur; apply s_len_string; exact rfl; exact rfl; exact rfl); (apply ol_val; exact rfl; apply stp_cmp; apply s_lss; exact rfl; exact rfl; all_goals (intro hc50; try (exfalso; (first | exact hc50 rfl | omega)))); all_goals (apply ol_nil))
                  | (refine cw_region_id 17 ?_; (apply ol_mv; exact rfl; exact rfl); (apply ol_val; exact rfl; apply stp_pur; apply s_len; exact rfl; exact el_23); (apply ol_val; exact rfl; apply stp_cmp; apply s_gtr; exact rfl; exact rfl; all_goals (intro hc67; try (exfalso; (first | exact hc67 rfl | omega)))); all_goals (apply ol_nil))
                  | (refine cw_region_id 19 ?_; (apply ol_mv; exact rfl; exact rfl); (apply ol_val; exact rfl; apply stp_pur; apply s_buildS; exact rfl; exact fs_25; exact zb_25; (focus ((repeat (first | exact rfl | constructor)); done))); (apply ol_eff; apply s_storeN; exact rfl; exact rfl; exact sz_25; exact rfl; exact rfl; (focus ((repeat constructor); done)); (focus ((repeat constructor); done))); (apply ol_as; exact rfl; exact rfl); (apply ol_nil))
                  | (apply cw_cond_true; exact rfl; (first | exact rfl | assumption))
                  | (apply cw_cond_false; exact rfl; (first | exact rfl | assumption))
                  | apply cw_skip
                  | apply cw_ret
                  | apply cw_block
                  | apply cw_exit
                refine ends [⟨r, flat (eK .u32) (wI (nd W (num b l)) (num b l)) ++ sp, 51⟩] (RVal.cellN rfl rfl rfl (RdN.own (by (repeat (first | exact Has.here | apply Has.there))) (GetN.cons rfl GetN.nil)) (RVal.tmp rfl RVal.nil)) (by (repeat (first | exact Pick.nil | (apply Pick.cons; (focus ((repeat (first | exact Spl.here | apply Spl.there)); done))) | exact Pick.refl))) ?_
                exact ⟨_, rfl, r, A, cp, sp, rfl, rfl, so⟩

theorem parse_spec (w : World) {l : List Int} (hl : ∀ x ∈ l, 0 ≤ x ∧ x ≤ 255) : FnC Tryd.prog 10 [.string (strOf l)] w (NRs (rdP 10 l)) := by
  refine enterF (M := View.of w) Tryd.func10 rfl rfl rfl rfl (View.le.refl _) ?_
  have kr := fun (w' : World) => read_spec w' (b := 10) (.inl rfl) hl
  unfold NRs WR at kr
  repeat' first
    | apply cw_seq
    | (refine cw_region_id 0 ?_; (apply ol_val; exact rfl; apply s_alloc; exact zb_25; (focus ((repeat constructor); done)); intro bk2); (apply ol_as; exact rfl; exact rfl); (apply ol_nil))
    | (refine cw_region_id 1 ?_; (apply ol_mv; exact rfl; exact rfl); (apply ol_val; exact rfl; apply s_call; exact rfl; exact gf_24; (intro w' hw'; exact kr w'); ((intro v new h; obtain ⟨_, rfl, r1, A1, cap1, sp1, rfl, rfl, so1⟩ := h))); (apply ol_ex; exact rfl; exact rfl; exact rfl); (apply ol_ex; exact rfl; exact rfl; exact rfl); (apply ol_eff; apply s_storeN; exact rfl; exact rfl; exact sz_25; exact rfl; exact rfl; (focus ((repeat constructor); done)); (focus ((repeat constructor); done))); (apply ol_as; exact rfl; exact rfl); (apply ol_nil))
    | (apply cw_cond_true; exact rfl; (first | exact rfl | assumption))
    | (apply cw_cond_false; exact rfl; (first | exact rfl | assumption))
    | apply cw_skip
    | apply cw_ret
    | apply cw_block
    | apply cw_exit
  refine ends [⟨r1, flat (eK .u32) (wI (nd W (rdP 10 l).2) (rdP 10 l).2) ++ sp1, 51⟩] (RVal.cellN rfl rfl rfl (RdN.own (by (repeat (first | exact Has.here | apply Has.there))) (GetN.cons rfl GetN.nil)) (RVal.tmp rfl RVal.nil)) (by (repeat (first | exact Pick.nil | (apply Pick.cons; (focus ((repeat (first | exact Spl.here | apply Spl.there)); done))) | exact Pick.refl))) ?_
  exact ⟨_, rfl, r1, A1, cap1, sp1, rfl, rfl, so1⟩
theorem parseHex_spec (w : World) {l : List Int} (hl : ∀ x ∈ l, 0 ≤ x ∧ x ≤ 255) : FnC Tryd.prog 12 [.string (strOf l)] w (NRs (rdP 16 l)) := by
  refine enterF (M := View.of w) Tryd.func12 rfl rfl rfl rfl (View.le.refl _) ?_
  have kr := fun (w' : World) => read_spec w' (b := 16) (.inr rfl) hl
  unfold NRs WR at kr
  repeat' first
    | apply cw_seq
    | (refine cw_region_id 0 ?_; (apply ol_val; exact rfl; apply s_alloc; exact zb_25; (focus ((repeat constructor); done)); intro bk2); (apply ol_as; exact rfl; exact rfl); (apply ol_nil))
    | (refine cw_region_id 1 ?_; (apply ol_mv; exact rfl; exact rfl); (apply ol_val; exact rfl; apply s_call; exact rfl; exact gf_24; (intro w' hw'; exact kr w'); ((intro v new h; obtain ⟨_, rfl, r1, A1, cap1, sp1, rfl, rfl, so1⟩ := h))); (apply ol_ex; exact rfl; exact rfl; exact rfl); (apply ol_ex; exact rfl; exact rfl; exact rfl); (apply ol_eff; apply s_storeN; exact rfl; exact rfl; exact sz_25; exact rfl; exact rfl; (focus ((repeat constructor); done)); (focus ((repeat constructor); done))); (apply ol_as; exact rfl; exact rfl); (apply ol_nil))
    | (apply cw_cond_true; exact rfl; (first | exact rfl | assumption))
    | (apply cw_cond_false; exact rfl; (first | exact rfl | assumption))
    | apply cw_skip
    | apply cw_ret
    | apply cw_block
    | apply cw_exit
  refine ends [⟨r1, flat (eK .u32) (wI (nd W (rdP 16 l).2) (rdP 16 l).2) ++ sp1, 51⟩] (RVal.cellN rfl rfl rfl (RdN.own (by (repeat (first | exact Has.here | apply Has.there))) (GetN.cons rfl GetN.nil)) (RVal.tmp rfl RVal.nil)) (by (repeat (first | exact Pick.nil | (apply Pick.cons; (focus ((repeat (first | exact Spl.here | apply Spl.there)); done))) | exact Pick.refl))) ?_
  exact ⟨_, rfl, r1, A1, cap1, sp1, rfl, rfl, so1⟩
end Go.Proofs.YtjaeblkgjbncmaaDoor

/-
  Functions of Go's library, by the shelf's contracts, in the words of the framework.
-/
namespace Go.Proofs
set_option maxRecDepth 20000
set_option linter.unusedSimpArgs false
set_option linter.unusedVariables false
open Go.Shelf
def Tryd.lays128_ren : Go.Shelf.Ren := ⟨fun | 128 => 47 | n => n, fun | 51 => 51 | 3 => 3 | 4 => 4 | 46 => 38 | 5 => 5 | 9 => 9 | n => n, fun | n => n⟩
theorem Tryd.lays128 : Go.Proofs.Lays.n128 Tryd.prog Tryd.lays128_ren where
  mixed := by kernel_rfl
  f128 := Tryd.func47.trans (congrArg some (by kernel_rfl))
  t3 := Tryd.underlying3
  a3 := Tryd.isAgg3
  z3 := Tryd.sizeOf3
  v3 := Tryd.zeroValue3
  t4 := Tryd.underlying4
  a4 := Tryd.isAgg4
  z4 := Tryd.sizeOf4
  v4 := Tryd.zeroValue4
  t5 := Tryd.underlying5
  a5 := Tryd.isAgg5
  z5 := Tryd.sizeOf5
  v5 := Tryd.zeroValue5
  t9 := Tryd.underlying9
  a9 := Tryd.isAgg9
  z9 := Tryd.sizeOf9
  v9 := Tryd.zeroValue9
  t46 := Tryd.underlying38
  a46 := Tryd.isAgg38
  z46 := Tryd.sizeOf38
  v46 := Tryd.zeroValue38
  t51 := Tryd.underlying51
  a51 := Tryd.isAgg51
  z51 := Tryd.sizeOf51
  v51 := Tryd.zeroValue51
def Tryd.lays105_ren : Go.Shelf.Ren := ⟨fun | 105 => 29 | 212 => 42 | 99 => 43 | 165 => 44 | 166 => 32 | 170 => 45 | 169 => 33 | 263 => 53 | 264 => 54 | 206 => 55 | 240 => 46 | 241 => 56 | 276 => 57 | 277 => 63 | n => n, fun | 9 => 9 | 3 => 3 | 4 => 4 | 20 => 20 | 0 => 0 | 46 => 38 | 109 => 76 | 5 => 5 | 72 => 60 | 76 => 63 | 51 => 51 | 146 => 88 | 53 => 41 | 148 => 90 | 70 => 58 | 37 => 33 | 75 => 62 | 127 => 80 | 164 => 92 | 80 => 65 | n => n, fun | n => n⟩
theorem Tryd.lays105 : Go.Proofs.Lays.n105 Tryd.prog Tryd.lays105_ren where
  mixed := by kernel_rfl
  f99 := Tryd.func43.trans (congrArg some (by kernel_rfl))
  f105 := Tryd.func29.trans (congrArg some (by kernel_rfl))
  f165 := Tryd.func44.trans (congrArg some (by kernel_rfl))
  f166 := Tryd.func32.trans (congrArg some (by kernel_rfl))
  f169 := Tryd.func33.trans (congrArg some (by kernel_rfl))
  f170 := Tryd.func45.trans (congrArg some (by kernel_rfl))
  f206 := Tryd.func55.trans (congrArg some (by kernel_rfl))
  f212 := Tryd.func42.trans (congrArg some (by kernel_rfl))
  f240 := Tryd.func46.trans (congrArg some (by kernel_rfl))
  f241 := Tryd.func56.trans (congrArg some (by kernel_rfl))
  f263 := Tryd.func53.trans (congrArg some (by kernel_rfl))
  f264 := Tryd.func54.trans (congrArg some (by kernel_rfl))
  f276 := Tryd.func57.trans (congrArg some (by kernel_rfl))
  f277 := Tryd.func63.trans (congrArg some (by kernel_rfl))
  t0 := Tryd.underlying0
  a0 := Tryd.isAgg0
  z0 := Tryd.sizeOf0
  v0 := Tryd.zeroValue0
  t3 := Tryd.underlying3
  a3 := Tryd.isAgg3
  z3 := Tryd.sizeOf3
  v3 := Tryd.zeroValue3
  t4 := Tryd.underlying4
  a4 := Tryd.isAgg4
  z4 := Tryd.sizeOf4
  v4 := Tryd.zeroValue4
  t5 := Tryd.underlying5
  a5 := Tryd.isAgg5
  z5 := Tryd.sizeOf5
  v5 := Tryd.zeroValue5
  t9 := Tryd.underlying9
  a9 := Tryd.isAgg9
  z9 := Tryd.sizeOf9
  v9 := Tryd.zeroValue9
  t20 := Tryd.underlying20
  a20 := Tryd.isAgg20
  z20 := Tryd.sizeOf20
  v20 := Tryd.zeroValue20
  t37 := Tryd.underlying33
  a37 := Tryd.isAgg33
  z37 := Tryd.sizeOf33
  v37 := Tryd.zeroValue33
  t46 := Tryd.underlying38
  a46 := Tryd.isAgg38
  z46 := Tryd.sizeOf38
  v46 := Tryd.zeroValue38
  t51 := Tryd.underlying51
  a51 := Tryd.isAgg51
  z51 := Tryd.sizeOf51
  v51 := Tryd.zeroValue51
  t53 := Tryd.underlying41
  a53 := Tryd.isAgg41
  z53 := Tryd.sizeOf41
  v53 := Tryd.zeroValue41
  t70 := Tryd.underlying58
  a70 := Tryd.isAgg58
  z70 := Tryd.sizeOf58
  v70 := Tryd.zeroValue58
  t72 := Tryd.underlying60
  a72 := Tryd.isAgg60
  z72 := Tryd.sizeOf60
  v72 := Tryd.zeroValue60
  t75 := Tryd.underlying62
  a75 := Tryd.isAgg62
  z75 := Tryd.sizeOf62
  v75 := Tryd.zeroValue62
  t76 := Tryd.underlying63
  a76 := Tryd.isAgg63
  z76 := Tryd.sizeOf63
  v76 := Tryd.zeroValue63
  t109 := Tryd.underlying76
  a109 := Tryd.isAgg76
  z109 := Tryd.sizeOf76
  v109 := Tryd.zeroValue76
  t127 := Tryd.underlying80
  a127 := Tryd.isAgg80
  z127 := Tryd.sizeOf80
  v127 := Tryd.zeroValue80
  t146 := Tryd.underlying88
  a146 := Tryd.isAgg88
  z146 := Tryd.sizeOf88
  v146 := Tryd.zeroValue88
  t148 := Tryd.underlying90
  a148 := Tryd.isAgg90
  z148 := Tryd.sizeOf90
  v148 := Tryd.zeroValue90
  t164 := Tryd.underlying92
  a164 := Tryd.isAgg92
  z164 := Tryd.sizeOf92
  v164 := Tryd.zeroValue92
def Tryd.lays156_ren : Go.Shelf.Ren := ⟨fun | 156 => 31 | 165 => 44 | 166 => 32 | 169 => 33 | 240 => 46 | 241 => 56 | 276 => 57 | 277 => 63 | n => n, fun | 31 => 52 | 9 => 9 | 3 => 3 | 4 => 4 | 0 => 0 | 20 => 20 | 72 => 60 | 76 => 63 | 70 => 58 | 37 => 33 | 75 => 62 | 127 => 80 | 164 => 92 | 5 => 5 | 80 => 65 | n => n, fun | n => n⟩
theorem Tryd.lays156 : Go.Proofs.Lays.n156 Tryd.prog Tryd.lays156_ren where
  mixed := by kernel_rfl
  f156 := Tryd.func31.trans (congrArg some (by kernel_rfl))
  f165 := Tryd.func44.trans (congrArg some (by kernel_rfl))
  f166 := Tryd.func32.trans (congrArg some (by kernel_rfl))
  f169 := Tryd.func33.trans (congrArg some (by kernel_rfl))
  f240 := Tryd.func46.trans (congrArg some (by kernel_rfl))
  f241 := Tryd.func56.trans (congrArg some (by kernel_rfl))
  f276 := Tryd.func57.trans (congrArg some (by kernel_rfl))
  f277 := Tryd.func63.trans (congrArg some (by kernel_rfl))
  t0 := Tryd.underlying0
  a0 := Tryd.isAgg0
  z0 := Tryd.sizeOf0
  v0 := Tryd.zeroValue0
  t3 := Tryd.underlying3
  a3 := Tryd.isAgg3
  z3 := Tryd.sizeOf3
  v3 := Tryd.zeroValue3
  t4 := Tryd.underlying4
  a4 := Tryd.isAgg4
  z4 := Tryd.sizeOf4
  v4 := Tryd.zeroValue4
  t9 := Tryd.underlying9
  a9 := Tryd.isAgg9
  z9 := Tryd.sizeOf9
  v9 := Tryd.zeroValue9
  t20 := Tryd.underlying20
  a20 := Tryd.isAgg20
  z20 := Tryd.sizeOf20
  v20 := Tryd.zeroValue20
  t31 := Tryd.underlying52
  a31 := Tryd.isAgg52
  z31 := Tryd.sizeOf52
  v31 := Tryd.zeroValue52
  t37 := Tryd.underlying33
  a37 := Tryd.isAgg33
  z37 := Tryd.sizeOf33
  v37 := Tryd.zeroValue33
  t70 := Tryd.underlying58
  a70 := Tryd.isAgg58
  z70 := Tryd.sizeOf58
  v70 := Tryd.zeroValue58
  t72 := Tryd.underlying60
  a72 := Tryd.isAgg60
  z72 := Tryd.sizeOf60
  v72 := Tryd.zeroValue60
  t75 := Tryd.underlying62
  a75 := Tryd.isAgg62
  z75 := Tryd.sizeOf62
  v75 := Tryd.zeroValue62
  t76 := Tryd.underlying63
  a76 := Tryd.isAgg63
  z76 := Tryd.sizeOf63
  v76 := Tryd.zeroValue63
  t127 := Tryd.underlying80
  a127 := Tryd.isAgg80
  z127 := Tryd.sizeOf80
  v127 := Tryd.zeroValue80
  t164 := Tryd.underlying92
  a164 := Tryd.isAgg92
  z164 := Tryd.sizeOf92
  v164 := Tryd.zeroValue92
def Tryd.lays283_ren : Go.Shelf.Ren := ⟨fun | 283 => 49 | n => n, fun | 3 => 3 | 9 => 9 | 4 => 4 | n => n, fun | n => n⟩
theorem Tryd.lays283 : Go.Proofs.Lays.n283 Tryd.prog Tryd.lays283_ren where
  mixed := by kernel_rfl
  f283 := Tryd.func49.trans (congrArg some (by kernel_rfl))
  t3 := Tryd.underlying3
  a3 := Tryd.isAgg3
  z3 := Tryd.sizeOf3
  v3 := Tryd.zeroValue3
  t4 := Tryd.underlying4
  a4 := Tryd.isAgg4
  z4 := Tryd.sizeOf4
  v4 := Tryd.zeroValue4
  t9 := Tryd.underlying9
  a9 := Tryd.isAgg9
  z9 := Tryd.sizeOf9
  v9 := Tryd.zeroValue9
def Tryd.laysM284_ren : Go.Shelf.Ren := ⟨fun | 284 => 50 | 129 => 59 | 317 => 58 | 318 => 60 | n => n, fun | 53 => 41 | 3 => 3 | 212 => 96 | 0 => 0 | 4 => 4 | 46 => 38 | 5 => 5 | 9 => 9 | n => n, fun | 17 => 0 | n => n⟩
theorem Tryd.laysM284 : Go.Proofs.LaysM.n284 Tryd.prog Tryd.laysM284_ren where
  mixed := by kernel_rfl
  f129 := Tryd.func59.trans (congrArg some (by kernel_rfl))
  f284 := Tryd.func50.trans (congrArg some (by kernel_rfl))
  f317 := Tryd.func58.trans (congrArg some (by kernel_rfl))
  f318 := Tryd.func60.trans (congrArg some (by kernel_rfl))
  t0 := Tryd.underlying0
  a0 := Tryd.isAgg0
  z0 := Tryd.sizeOf0
  v0 := Tryd.zeroValue0
  t3 := Tryd.underlying3
  a3 := Tryd.isAgg3
  z3 := Tryd.sizeOf3
  v3 := Tryd.zeroValue3
  t4 := Tryd.underlying4
  a4 := Tryd.isAgg4
  z4 := Tryd.sizeOf4
  v4 := Tryd.zeroValue4
  t5 := Tryd.underlying5
  a5 := Tryd.isAgg5
  z5 := Tryd.sizeOf5
  v5 := Tryd.zeroValue5
  t9 := Tryd.underlying9
  a9 := Tryd.isAgg9
  z9 := Tryd.sizeOf9
  v9 := Tryd.zeroValue9
  t46 := Tryd.underlying38
  a46 := Tryd.isAgg38
  z46 := Tryd.sizeOf38
  v46 := Tryd.zeroValue38
  t53 := Tryd.underlying41
  a53 := Tryd.isAgg41
  z53 := Tryd.sizeOf41
  v53 := Tryd.zeroValue41
  t212 := Tryd.underlying96
  a212 := Tryd.isAgg96
  z212 := Tryd.sizeOf96
  v212 := Tryd.zeroValue96
  g17 := by kernel_rfl
  i0 := by kernel_rfl
  i3 := by kernel_rfl
  i4 := by kernel_rfl
  i5 := by kernel_rfl
  i9 := by kernel_rfl
  i46 := by kernel_rfl
  i53 := by kernel_rfl
  i212 := by kernel_rfl
  m17 := by kernel_rfl
def Tryd.lays285_ren : Go.Shelf.Ren := ⟨fun | 285 => 51 | n => n, fun | 37 => 33 | 53 => 41 | 3 => 3 | 4 => 4 | 51 => 51 | 9 => 9 | 5 => 5 | 0 => 0 | n => n, fun | n => n⟩
theorem Tryd.lays285 : Go.Proofs.Lays.n285 Tryd.prog Tryd.lays285_ren where
  mixed := by kernel_rfl
  f285 := Tryd.func51.trans (congrArg some (by kernel_rfl))
  t0 := Tryd.underlying0
  a0 := Tryd.isAgg0
  z0 := Tryd.sizeOf0
  v0 := Tryd.zeroValue0
  t3 := Tryd.underlying3
  a3 := Tryd.isAgg3
  z3 := Tryd.sizeOf3
  v3 := Tryd.zeroValue3
  t4 := Tryd.underlying4
  a4 := Tryd.isAgg4
  z4 := Tryd.sizeOf4
  v4 := Tryd.zeroValue4
  t5 := Tryd.underlying5
  a5 := Tryd.isAgg5
  z5 := Tryd.sizeOf5
  v5 := Tryd.zeroValue5
  t9 := Tryd.underlying9
  a9 := Tryd.isAgg9
  z9 := Tryd.sizeOf9
  v9 := Tryd.zeroValue9
  t37 := Tryd.underlying33
  a37 := Tryd.isAgg33
  z37 := Tryd.sizeOf33
  v37 := Tryd.zeroValue33
  t51 := Tryd.underlying51
  a51 := Tryd.isAgg51
  z51 := Tryd.sizeOf51
  v51 := Tryd.zeroValue51
  t53 := Tryd.underlying41
  a53 := Tryd.isAgg41
  z53 := Tryd.sizeOf41
  v53 := Tryd.zeroValue41
theorem Tryd.Builder_Extra_105 : Builder.Extra Tryd.prog Tryd.lays105_ren where
  sizeBuilder := by kernel_rfl
  liesBuilder := by kernel_rfl
  t5 := Tryd.underlying5
  a5 := Tryd.isAgg5
  z5 := Tryd.sizeOf5
  v5 := Tryd.zeroValue5
  infoByte := by kernel_rfl
  cellsByte := by kernel_rfl
  sizeByte := by kernel_rfl
  neB5 := by decide
theorem Tryd.Builder_Extra_156 : Builder.Extra Tryd.prog Tryd.lays156_ren where
  sizeBuilder := by kernel_rfl
  liesBuilder := by kernel_rfl
  t5 := Tryd.underlying5
  a5 := Tryd.isAgg5
  z5 := Tryd.sizeOf5
  v5 := Tryd.zeroValue5
  infoByte := by kernel_rfl
  cellsByte := by kernel_rfl
  sizeByte := by kernel_rfl
  neB5 := by decide
end Go.Proofs
namespace Go.Proofs.YtjaeblkgjbncmaaDoor
set_option maxRecDepth 20000
set_option linter.unusedSimpArgs false
set_option linter.unusedVariables false
open Go Go.Fw Go.RowKit
theorem fnc_of_below {P : Program} {f : FuncId} {args : List Value} {w : World} {Ψ : Value → List OB → Prop} {v : Value} (h : Calls P f args.toArray w (fun e w' => e = .returned v ∧ Below w.heap.size w w')) (hv : Ψ v []) : FnC P f args w Ψ :=
  Calls.mono h fun _ _ ⟨h1, h2⟩ => ⟨v, [], [], h1, ⟨h2.os, h2.tape, h2.output, h2.size, fun b hb _ => h2.block b hb, (fun _ h => by cases h), (fun _ h => by cases h), List.nodup_nil⟩, rfl, hv⟩
theorem fnc_of_same {P : Program} {f : FuncId} {args : List Value} {w : World} {Ψ : Value → List OB → Prop} {v : Value} (h : Calls P f args.toArray w (fun e w' => e = .returned v ∧ w' = w)) (hv : Ψ v []) : FnC P f args w Ψ :=
  fnc_of_below (Calls.mono h fun _ _ ⟨h1, h2⟩ => ⟨h1, h2 ▸ Below.refl _ _⟩) hv
theorem bytesOf_append (xs ys : List Int) : bytesOf (xs ++ ys) = bytesOf xs ++ bytesOf ys := by unfold bytesOf; rw [List.map_append]
theorem repeatL_bytes (xs : List Int) (c : Nat) : Lib.repeatL (bytesOf xs) c = bytesOf (List.replicate c xs).flatten := by
  induction c with
  | zero => rfl
  | succ c ih => rw [Lib.repeatL, ih, List.replicate_succ, List.flatten_cons, bytesOf_append]
theorem bitLenAux_nd : ∀ (f x : Nat), x < 2 ^ f → Lib.bitLenAux f x = nd 2 x
  | 0, x, h => by
    obtain rfl : x = 0 := by simpa using h
    rw [nd_zero]; rfl
  | f + 1, x, h => by
    unfold Lib.bitLenAux
    split
    · rename_i h0; subst h0; rw [nd_zero]
    · rename_i h0
      rw [bitLenAux_nd f (x / 2) (by rw [Nat.pow_succ] at h; omega), nd_pos (n := x) (by decide) (by omega), Nat.add_comm]
theorem bitLen_nd {x : Nat} (h : x < 2 ^ 64) : Lib.bitLen x = nd 2 x := bitLenAux_nd 64 x h
theorem len32_spec (w : World) {x : Nat} (hx : x < 4294967296) : FnC Tryd.prog 47 [.int .u32 x] w (fun v _ => v = .int .i64 (nd 2 x : Nat)) :=
  fnc_of_same (Any.bits_Len32 Tryd.lays128 (x : Int) w (by omega) (by omega)) (by rw [Int.toNat_natCast, bitLen_nd (by omega)])
/-- A string, so many times. -/
theorem repeat_spec (w : World) {xs : List Int} {c : Nat} (h : xs.length * c ≤ 140737488355328) (hc : c ≤ 1000000) : FnC Tryd.prog 29 [.string (strOf xs), .int .i64 c] w (fun v _ => v = .string (strOf (List.replicate c xs).flatten)) := by
  refine fnc_of_below (Any.strings_Repeat Tryd.lays105 Tryd.Builder_Extra_105 (strOf xs) c w (by omega) (by rw [strOf_size]; exact h)) ?_
  have e : (strOf xs).data.toList = bytesOf xs := by unfold strOf; rfl
  rw [e, repeatL_bytes]
  rfl
end Go.Proofs.YtjaeblkgjbncmaaDoor

/-
  Bytes of numbers, in plain words.
-/
namespace Go.Proofs.YtjaeblkgjbncmaaDoor
set_option maxRecDepth 20000
set_option linter.unusedSimpArgs false
set_option linter.unusedVariables false
theorem W_256 : W = 256 ^ 4 := by decide
theorem W_2 : W = 2 ^ 32 := by decide
/-- The bytes of a number, the highest first. -/
def bI (k N : Nat) : List Int := (lw 256 k N).reverse.map fun n : Nat => (n : Int)
theorem bI_length (k N : Nat) : (bI k N).length = k := by unfold bI; rw [List.length_map, List.length_reverse, lw_length]
theorem bI_zero (N : Nat) : bI 0 N = [] := rfl
theorem bI_succ (k N : Nat) : bI (k + 1) N = ((N / 256 ^ k % 256 : Nat) : Int) :: bI k N := by
  unfold bI
  rw [lw_succ, List.reverse_append, List.map_append]
  rfl
theorem bI_b (k N : Nat) : ∀ x ∈ bI k N, 0 ≤ x ∧ x ≤ 255 := by
  intro x hx
  obtain ⟨n, hn, rfl⟩ := List.mem_map.1 hx
  have := lw_lt (by decide : 0 < 256) _ _ n (List.mem_reverse.1 hn)
  omega
/-- A byte out of its word. -/
theorem byte_of_word (N i : Nat) : (N / W ^ (i / 4) % W) / 256 ^ (i % 4) % 256 = N / 256 ^ i % 256 := by
  have h1 : 256 ^ i = W ^ (i / 4) * 256 ^ (i % 4) := by
    rw [W_256, ← Nat.pow_mul, ← Nat.pow_add, Nat.div_add_mod]
  rw [h1, ← Nat.div_div_eq_div_mul]
  generalize N / W ^ (i / 4) = A
  have h4 : i % 4 < 4 := Nat.mod_lt _ (by decide)
  obtain ⟨m, hm⟩ : ∃ m, 4 = i % 4 + (m + 1) := ⟨4 - i % 4 - 1, by omega⟩
  have hW : W = 256 ^ (i % 4) * 256 ^ (m + 1) := by rw [W_256, ← Nat.pow_add, ← hm]
  rw [hW, Nat.mod_mul_right_div_self, Nat.mod_mod_of_dvd _ (by rw [Nat.pow_succ]; exact Nat.dvd_mul_left _ _)]
theorem byte_out {N k i : Nat} (h : N < W ^ k) (hk : ¬ i / 4 < k) : N / 256 ^ i % 256 = 0 := by
  have h1 : W ^ k ≤ 256 ^ i := by
    rw [W_256, ← Nat.pow_mul]
    exact Nat.pow_le_pow_right (by decide) (by omega)
  rw [Nat.div_eq_of_lt (Nat.lt_of_lt_of_le h h1)]
theorem pow8 (r : Nat) : (2 : Nat) ^ (8 * r) = 256 ^ r := by rw [Nat.pow_mul]
theorem bits_size {N s : Nat} : 8 * s < nd 2 N ↔ ¬ N < 256 ^ s := by
  rw [← pow8, ← nd_le_iff (by decide)]
  omega
theorem nd2_add {t m r : Nat} (ht : 0 < t) (hr : r < 2 ^ m) : nd 2 (2 ^ m * t + r) = m + nd 2 t := by
  have hd : (2 ^ m * t + r) / 2 ^ m = t := by rw [Nat.mul_add_div (Nat.two_pow_pos m), Nat.div_eq_of_lt hr, Nat.add_zero]
  have hnd : 0 < nd 2 t := by
    rcases Nat.eq_zero_or_pos (nd 2 t) with h | h
    · rw [nd_zero_iff (by decide)] at h; omega
    · exact h
  refine nd_eq (by decide) ?_ fun _ => ?_
  · rw [Nat.pow_add]
    have h1 := nd_lt (b := 2) (by decide) t
    have h2 : 2 ^ m * (t + 1) ≤ 2 ^ m * 2 ^ nd 2 t := Nat.mul_le_mul_left _ h1
    rw [Nat.mul_add, Nat.mul_one] at h2
    omega
  · rw [show m + nd 2 t - 1 = m + (nd 2 t - 1) by omega, Nat.pow_add, ← Nat.div_div_eq_div_mul, hd]
    exact nd_top (by decide) ht
/-- The bits of a valid number. -/
theorem nd2_words {k N : Nat} (h0 : 0 < k) (h : nd W N = k) : nd 2 N = 32 * (k - 1) + nd 2 (N / W ^ (k - 1) % W) := by
  have hN := nd_lt (b := W) (by decide) N
  rw [h] at hN
  have hpos : 0 < N := by
    rcases Nat.eq_zero_or_pos N with h2 | h2
    · subst h2; rw [nd_zero] at h; omega
    · exact h2
  have ht := nd_top (b := W) (by decide) hpos
  rw [h] at ht
  have hp : W ^ (k - 1) = 2 ^ (32 * (k - 1)) := by rw [W_2, ← Nat.pow_mul]
  have hlt : N / W ^ (k - 1) < W := by
    refine (Nat.div_lt_iff_lt_mul (Nat.pow_pos W_pos)).2 ?_
    rw [← Nat.pow_succ']
    rwa [show (k - 1).succ = k by omega]
  rw [Nat.mod_eq_of_lt hlt] at ht ⊢
  have := nd2_add (t := N / W ^ (k - 1)) (m := 32 * (k - 1)) (r := N % W ^ (k - 1)) (Nat.pos_of_ne_zero ht) (by rw [← hp]; exact Nat.mod_lt _ (Nat.pow_pos W_pos))
  rw [← hp, Nat.div_add_mod] at this
  exact this
/-- The number of some bytes, the highest first. -/
def nb (l : List Int) : Nat := vl 256 (l.map Int.toNat).reverse
theorem nb_nil : nb [] = 0 := rfl
theorem nb_snoc (l : List Int) (c : Int) : nb (l ++ [c]) = nb l * 256 + c.toNat := by
  unfold nb
  simp only [List.map_append, List.map_cons, List.map_nil, List.reverse_append, List.reverse_cons, List.reverse_nil, List.nil_append, List.cons_append, vl]
  rw [Nat.mul_comm, Nat.add_comm]
theorem nb_cons (c : Int) (l : List Int) : nb (c :: l) = 256 ^ l.length * c.toNat + nb l := by
  unfold nb
  simp only [List.map_cons, List.reverse_cons]
  rw [vl_append, List.length_reverse, List.length_map, Nat.add_comm]
  simp [vl]
theorem nb_lt {l : List Int} (h : ∀ x ∈ l, 0 ≤ x ∧ x ≤ 255) : nb l < 256 ^ l.length := by
  have := vl_lt (b := 256) (l := (l.map Int.toNat).reverse) fun x hx => by
    obtain ⟨c, hc, rfl⟩ := List.mem_map.1 (List.mem_reverse.1 hx)
    have := h c hc
    omega
  simpa [nb] using this
/-- A byte, counted from the end. -/
theorem nb_get {l : List Int} (h : ∀ x ∈ l, 0 ≤ x ∧ x ≤ 255) {i : Nat} (hi : i < l.length) : ((nb l / 256 ^ i % 256 : Nat) : Int) = l.getD (l.length - 1 - i) 0 := by
  have hb : ∀ x ∈ (l.map Int.toNat).reverse, x < 256 := fun x hx => by
    obtain ⟨c, hc, rfl⟩ := List.mem_map.1 (List.mem_reverse.1 hx)
    have := h c hc
    omega
  have h1 := lw_vl hb
  have hl : (l.map Int.toNat).reverse.length = l.length := by simp
  rw [hl] at h1
  have h2 : i < (lw 256 l.length (vl 256 (l.map Int.toNat).reverse)).length := by rw [lw_length]; exact hi
  have h3 := lw_get h2
  have h4 : nb l / 256 ^ i % 256 = ((l.map Int.toNat).reverse)[i]'(by rw [hl]; exact hi) := by
    unfold nb
    rw [← h3]
    congr 1
  rw [h4, List.getElem_reverse, List.getElem_map, List.getD_eq_getElem?_getD, List.getElem?_eq_getElem (by omega)]
  simp only [List.length_map, Option.getD_some]
  have := h (l[l.length - 1 - i]'(by omega)) (List.getElem_mem _)
  omega
theorem nb_bI {k N : Nat} (h : N < 256 ^ k) : nb (bI k N) = N := by
  unfold nb bI
  rw [List.map_map, List.map_congr_left (g := id) (by intro x _; simp), List.map_id, List.reverse_reverse, vl_lw, Nat.mod_eq_of_lt h]
end Go.Proofs.YtjaeblkgjbncmaaDoor

/-
  Bytes of numbers: the program's way.
-/
namespace Go.Proofs.YtjaeblkgjbncmaaDoor
set_option maxRecDepth 20000
set_option linter.unusedSimpArgs false
set_option linter.unusedVariables false
open Go Go.Fw
/-- What Bytes says: the error and the bytes. -/
def byP (k N : Nat) (s : Int) : Nat × List Int := if vd k N = false then (1, []) else if s < 0 ∨ 1000 < s then (2, []) else if ¬ N < 256 ^ s.toNat then (9, []) else (0, bI s.toNat N)
/-- Bytes handed back, and an error. -/
def BRs (p : Nat × List Int) (v : Value) (new : List OB) : Prop := ∃ u, v = .tuple #[u, .int .i64 p.1] ∧ RowRes (eK .u8) 1 5 p.2 u new
/-- The row in the middle of the loop. -/
def bmid (s N i : Nat) : List Int := List.replicate (s - i) 0 ++ bI i N
theorem bmid_length {s N i : Nat} (h : i ≤ s) : (bmid s N i).length = s := by unfold bmid; rw [List.length_append, List.length_replicate, bI_length]; omega
theorem bmid_zero (s N : Nat) : bmid s N 0 = List.replicate s 0 := by unfold bmid; rw [bI_zero, List.append_nil, Nat.sub_zero]
theorem bmid_end (s N : Nat) : bmid s N s = bI s N := by unfold bmid; rw [Nat.sub_self]; rfl
theorem bmid_set {s N i : Nat} (h : i < s) : (bmid s N i).set (s - 1 - i) ((N / 256 ^ i % 256 : Nat) : Int) = bmid s N (i + 1) := by
  unfold bmid
  obtain ⟨m, hm⟩ : ∃ m, s - i = m + 1 := ⟨s - i - 1, by omega⟩
  rw [hm, show s - (i + 1) = m by omega, show s - 1 - i = m by omega, List.replicate_succ', List.append_assoc, List.set_append_right _ _ (by rw [List.length_replicate]; exact Nat.le_refl _), List.length_replicate, Nat.sub_self, bI_succ]
  rfl
theorem bmid_out {s N i : Nat} (h : i < s) (h0 : N / 256 ^ i % 256 = 0) : bmid s N i = bmid s N (i + 1) := by
  unfold bmid
  obtain ⟨m, hm⟩ : ∃ m, s - i = m + 1 := ⟨s - i - 1, by omega⟩
  rw [hm, show s - (i + 1) = m by omega, List.replicate_succ', List.append_assoc, bI_succ, h0]
  rfl
theorem flat_zeros8 (k : Nat) : flat (eK .u8) (List.replicate k 0) ++ [] = List.replicate k (.int .u8 0) := by
  rw [List.append_nil, flatK_map, List.map_replicate]
theorem wrap8 (n : Nat) : IntKind.u8.wrap ((n : Nat) : Int) = ((n % 256 : Nat) : Int) := by rw [wrapU8]; exact (Int.natCast_emod n 256).symm
theorem shr8 (n i : Nat) : ((n : Nat) : Int) / 2 ^ (8 * (((i : Nat) : Int) % 4)).toNat = ((n / 256 ^ (i % 4) : Nat) : Int) := by
  have e : (8 * (((i : Nat) : Int) % 4)).toNat = 8 * (i % 4) := by omega
  rw [e, ← pow8]
  simp
theorem RowRes.nil8 : RowRes (eK .u8) 1 5 [] (.slice none 0 0) [⟨none, [], 5⟩] := RowRes.zero (eK .u8) 1 5
end Go.Proofs.YtjaeblkgjbncmaaDoor
namespace Go.Proofs.YtjaeblkgjbncmaaDoor
set_option maxRecDepth 20000
set_option linter.unusedSimpArgs false
set_option linter.unusedVariables false
open Go Go.Fw
attribute [local irreducible] CW OL OD FX Stp FnC FnV Ret wI vd strOf bI bmid
set_option maxHeartbeats 800000

theorem bits_spec {M : View} {w : World} (hM : View.le M (View.of w)) {a : Option Addr} {b o c k N : Nat} (hv : vd k N = true) (s : SlA M (eK .u32) 1 a (wI k N) b o) :
    FnC Tryd.prog 34 [.agg [.slice a k c].toArray] w (fun v _ => v = .int .i64 (nd 2 N : Nat)) := by
  refine enterF (M := M) Tryd.func34 rfl rfl rfl rfl hM ?_
  have hk : k ≤ 64 ∧ nd W N = k := by unfold vd at hv; simpa using hv
  have hN : N < W ^ k := by rw [← hk.2]; exact nd_lt (by decide) N
  have kv := fun (w' : World) (h : View.le M (View.of w')) => valid_spec h (c := c) hN (by omega) s
  rw [hv] at kv
  by_cases h0 : k = 0
  · have hz : N = 0 := (nd_zero_iff (by decide)).1 (hk.2.trans h0)
    subst h0
    rw [hz, nd_zero] at *
    repeat' first
      | apply cw_seq
      | (refine cw_region_id 0 ?_; (apply ol_val; exact rfl; first | (apply s_boxN; exact rfl; intro bk1) | (apply s_box1; exact rfl; exact rfl; intro bk1)); (apply ol_as; exact rfl; exact rfl); (apply ol_nil))
      | (refine cw_region_id 1 ?_; (apply ol_ldN; exact rfl; exact rfl; exact rfl; exact sz_25; (apply RdN.own; (focus ((repeat constructor); done)); (focus ((repeat (first | exact rfl | constructor)); done)))); (apply ol_val; exact rfl; apply s_callv; exact rfl; exact gf_25; (intro w' hw'; exact kv w' hw'.le)); (apply ol_val; exact rfl; apply stp_pur; first | (apply s_not_t; exact rfl; (first | exact rfl | assumption)) | (apply s_not_f; exact rfl; (first | exact rfl | assumption)) | (apply s_not; exact rfl)); (apply ol_mv; exact rfl; exact rfl); (first | (apply ol_gskip; exact rfl; exact rfl; (first | exact rfl | assumption); exact rfl) | (apply ol_gval; exact rfl; exact rfl; exact rfl; (first | exact rfl | assumption); apply stp_pur; apply s_fieldAddr'; exact rfl; exact fd_25_0; (first | exact Nat.zero_add _ | exact Nat.add_zero _ | exact rfl))); (first | (apply ol_gskip; exact rfl; exact rfl; (first | exact rfl | assumption); exact rfl) | (apply ol_gval; exact rfl; exact rfl; exact rfl; (first | exact rfl | assumption); apply stp_pur; apply s_load1; exact rfl; exact rfl; (apply RdN.own; (focus ((repeat constructor); done)); exact GetN.cons rfl GetN.nil))); (first | (apply ol_gskip; exact rfl; exact rfl; (first | exact rfl | assumption); exact rfl) | (apply ol_gval; exact rfl; exact rfl; exact rfl; (first | exact rfl | assumption); apply stp_pur; apply s_len; exact rfl; exact el_23)); (first | (apply ol_gskip; exact rfl; exact rfl; (first | exact rfl | assumption); exact rfl) | (apply ol_gval; exact rfl; exact rfl; exact rfl; (first | exact rfl | assumption); apply stp_cmp; apply s_eql; exact rfl; exact rfl; all_goals (intro hc10; try (exfalso; (first | exact hc10 rfl | omega))))); all_goals (apply ol_val; exact rfl; apply stp_pur; first | (apply s_pick_t; exact rfl; (first | exact rfl | assumption); exact rfl) | (apply s_pick_f; exact rfl; (first | exact rfl | assumption); exact rfl)); all_goals (apply ol_nil))
      | (refine cw_region_id 2 ?_; (apply ol_as; exact rfl; exact rfl); (apply ol_nil))
      | (refine cw_draw (id := 3) 16 (.mv 0 (.mv 1 (.mv 2 (.mv 3 (.mv 4 (.mv 5 (.mv 6 (.mv 7 (.mv 8 (.mv 9 (.mv 10 (.mv 11 (.mv 12 (.fx 13 (.mv 14 (.mv 15 (PT.nil))))))))))))))))) mixed (by kernel_rfl) ?_; (apply od_mv; exact rfl; exact rfl; apply s_fieldAddr'; exact rfl; exact fd_25_0; (first | exact Nat.zero_add _ | exact Nat.add_zero _ | exact rfl)); (apply od_mv; exact rfl; exact rfl; apply s_load1; exact rfl; exact rfl; (apply RdN.own; (focus ((repeat constructor); done)); exact GetN.cons rfl GetN.nil)); (apply od_mv; exact rfl; exact rfl; apply s_len; exact rfl; exact el_23); (apply od_mv; exact rfl; exact rfl; apply s_sub64; exact rfl; exact rfl; omega); (apply od_mv; exact rfl; exact rfl; apply s_mul64; exact rfl; exact rfl; omega); (apply od_mv; exact rfl; exact rfl; apply s_fieldAddr'; exact rfl; exact fd_25_0; (first | exact Nat.zero_add _ | exact Nat.add_zero _ | exact rfl)); (apply od_mv; exact rfl; exact rfl; apply s_load1; exact rfl; exact rfl; (apply RdN.own; (focus ((repeat constructor); done)); exact GetN.cons rfl GetN.nil)); (apply od_mv; exact rfl; exact rfl; apply s_fieldAddr'; exact rfl; exact fd_25_0; (first | exact Nat.zero_add _ | exact Nat.add_zero _ | exact rfl)); (apply od_mv; exact rfl; exact rfl; apply s_load1; exact rfl; exact rfl; (apply RdN.own; (focus ((repeat constructor); done)); exact GetN.cons rfl GetN.nil)); (apply od_mv; exact rfl; exact rfl; apply s_len; exact rfl; exact el_23); (apply od_mv; exact rfl; exact rfl; apply s_sub64; exact rfl; exact rfl; omega); (apply od_mv; exact rfl; exact rfl; first | (apply s_indexK; exact rfl; exact rfl; exact el_23; exact sz_51; (first | exact rfl); omega) | (apply s_indexO; exact rfl; exact rfl; exact el_23; exact sz_51; (first | exact rfl); omega)); (apply od_mv; exact rfl; exact rfl; apply s_load1; exact rfl; exact rfl; (apply RdN.own; (focus ((repeat constructor); done)); (first | exact GetN.cons rfl GetN.nil | (apply getN_ints_app; (first | omega | (simp; omega) | (simp; done))) | (apply getN_ints; (first | omega | (simp; omega) | (simp; done)))))))
      | (apply cw_cond_true; exact rfl; (first | exact rfl | assumption))
      | (apply cw_cond_false; exact rfl; (first | exact rfl | assumption))
      | apply cw_skip
      | apply cw_ret
      | apply cw_block
      | apply cw_exit
    refine ends [] (RVal.tmp rfl RVal.nil) Pick.nil ?_
    rfl
  · have hl : k - 1 < (wI k N).length := by rw [wI_length]; omega
    have hc := s.cells (k - 1) hl
    have hq : o + ((k : Int) - 1).toNat * 1 = o + (k - 1) * 1 := by omega
    rw [← hq, wI_get hl] at hc
    have hnd := nd2_words (by omega) hk.2
    have hX : N / W ^ (k - 1) % W < W := Nat.mod_lt _ W_pos
    have kl := fun (w' : World) => len32_spec w' (x := N / W ^ (k - 1) % W) hX
    have hb64 : nd 2 (N / W ^ (k - 1) % W) ≤ 32 := nd_le (by decide) (by rw [← W_2]; exact hX)
    rw [hnd]
    generalize N / W ^ (k - 1) % W = X at *
    generalize nd 2 X = Y at *
    repeat' first
      | apply cw_seq
      | (refine cw_region_id 0 ?_; (apply ol_val; exact rfl; first | (apply s_boxN; exact rfl; intro bk1) | (apply s_box1; exact rfl; exact rfl; intro bk1)); (apply ol_as; exact rfl; exact rfl); (apply ol_nil))
      | (refine cw_region_id 1 ?_; (apply ol_ldN; exact rfl; exact rfl; exact rfl; exact sz_25; (first | (apply RdN.own; (focus ((repeat constructor); done)); (focus ((repeat (first | exact rfl | constructor)); done))) | (apply RdN.view; exact hc))); (apply ol_val; exact rfl; apply s_callv; exact rfl; exact gf_25; (intro w' hw'; exact kv w' hw'.le)); (apply ol_val; exact rfl; apply stp_pur; first | (apply s_not_t; exact rfl; (first | exact rfl | assumption)) | (apply s_not_f; exact rfl; (first | exact rfl | assumption)) | (apply s_not; exact rfl)); (apply ol_mv; exact rfl; exact rfl); (first | (apply ol_gskip; exact rfl; exact rfl; (first | exact rfl | assumption); exact rfl) | (apply ol_gval; exact rfl; exact rfl; exact rfl; (first | exact rfl | assumption); apply stp_pur; apply s_fieldAddr'; exact rfl; exact fd_25_0; (first | exact Nat.zero_add _ | exact Nat.add_zero _ | exact rfl))); (first | (apply ol_gskip; exact rfl; exact rfl; (first | exact rfl | assumption); exact rfl) | (apply ol_gval; exact rfl; exact rfl; exact rfl; (first | exact rfl | assumption); apply stp_pur; apply s_load1; exact rfl; exact rfl; (first | (apply RdN.own; (focus ((repeat constructor); done)); exact GetN.cons rfl GetN.nil) | (apply RdN.view; exact hc)))); (first | (apply ol_gskip; exact rfl; exact rfl; (first | exact rfl | assumption); exact rfl) | (apply ol_gval; exact rfl; exact rfl; exact rfl; (first | exact rfl | assumption); apply stp_pur; apply s_len; exact rfl; exact el_23)); (first | (apply ol_gskip; exact rfl; exact rfl; (first | exact rfl | assumption); exact rfl) | (apply ol_gval; exact rfl; exact rfl; exact rfl; (first | exact rfl | assumption); apply stp_cmp; apply s_eql; exact rfl; exact rfl; all_goals (intro hc10; try (exfalso; (first | exact hc10 rfl | omega))))); all_goals (apply ol_val; exact rfl; apply stp_pur; first | (apply s_pick_t; exact rfl; (first | exact rfl | assumption); exact rfl) | (apply s_pick_f; exact rfl; (first | exact rfl | assumption); exact rfl)); all_goals (apply ol_nil))
      | (refine cw_region_id 2 ?_; (apply ol_as; exact rfl; exact rfl); (apply ol_nil))
      | (refine cw_draw (id := 3) 16 (.mv 0 (.mv 1 (.mv 2 (.mv 3 (.mv 4 (.mv 5 (.mv 6 (.mv 7 (.mv 8 (.mv 9 (.mv 10 (.mv 11 (.mv 12 (.fx 13 (.mv 14 (.mv 15 (PT.nil))))))))))))))))) mixed (by kernel_rfl) ?_; (apply od_mv; exact rfl; exact rfl; apply s_fieldAddr'; exact rfl; exact fd_25_0; (first | exact Nat.zero_add _ | exact Nat.add_zero _ | exact rfl)); (apply od_mv; exact rfl; exact rfl; apply s_load1; exact rfl; exact rfl; (first | (apply RdN.own; (focus ((repeat constructor); done)); exact GetN.cons rfl GetN.nil) | (apply RdN.view; exact hc))); (apply od_mv; exact rfl; exact rfl; apply s_len; exact rfl; exact el_23); (apply od_mv; exact rfl; exact rfl; apply s_sub64; exact rfl; exact rfl; omega); (apply od_mv; exact rfl; exact rfl; apply s_mul64; exact rfl; exact rfl; omega); (apply od_mv; exact rfl; exact rfl; apply s_fieldAddr'; exact rfl; exact fd_25_0; (first | exact Nat.zero_add _ | exact Nat.add_zero _ | exact rfl)); (apply od_mv; exact rfl; exact rfl; apply s_load1; exact rfl; exact rfl; (first | (apply RdN.own; (focus ((repeat constructor); done)); exact GetN.cons rfl GetN.nil) | (apply RdN.view; exact hc))); (apply od_mv; exact rfl; exact rfl; apply s_fieldAddr'; exact rfl; exact fd_25_0; (first | exact Nat.zero_add _ | exact Nat.add_zero _ | exact rfl)); (apply od_mv; exact rfl; exact rfl; apply s_load1; exact rfl; exact rfl; (first | (apply RdN.own; (focus ((repeat constructor); done)); exact GetN.cons rfl GetN.nil) | (apply RdN.view; exact hc))); (apply od_mv; exact rfl; exact rfl; apply s_len; exact rfl; exact el_23); (apply od_mv; exact rfl; exact rfl; apply s_sub64; exact rfl; exact rfl; omega); (apply od_mv; exact rfl; exact rfl; first | (apply s_indexK; exact rfl; exact rfl; exact el_23; exact sz_51; (first | exact rfl | exact s.at_ (by rw [wI_length]; omega)); omega) | (apply s_indexO; exact rfl; exact rfl; exact el_23; exact sz_51; (first | exact rfl | exact s.at_ (by rw [wI_length]; omega)); omega)); (apply od_mv; exact rfl; exact rfl; apply s_load1; exact rfl; exact rfl; (first | (apply RdN.own; (focus ((repeat constructor); done)); (first | exact GetN.cons rfl GetN.nil | (apply getN_ints_app; (first | omega | (simp; omega) | (simp; done))) | (apply getN_ints; (first | omega | (simp; omega) | (simp; done))))) | (apply RdN.view; exact hc))); (apply od_fx; (first | exact Wk.refl _ _ | (focus (apply Wk.mk; (first | exact View.le.refl _ | assumption | exact View.le.trans (by assumption) (by assumption)); (repeat constructor); done))); (apply fx_val; exact rfl; exact rfl; apply s_callv; exact rfl; exact gf_47; (intro w' hw'; exact kl w'))); (apply od_mv; exact rfl; exact rfl; apply s_add64; exact rfl; exact rfl; omega); (apply od_mv; exact rfl; exact rfl; apply s_assign; exact rfl); (apply od_nil; (first | exact Wk.refl _ _ | (focus (apply Wk.mk; (first | exact View.le.refl _ | assumption | exact View.le.trans (by assumption) (by assumption)); (repeat constructor); done)))); (apply ol_nil))
      | (apply cw_cond_true; exact rfl; (first | exact rfl | assumption))
      | (apply cw_cond_false; exact rfl; (first | exact rfl | assumption))
      | apply cw_skip
      | apply cw_ret
      | apply cw_block
      | apply cw_exit
    refine ends [] (RVal.tmp rfl RVal.nil) Pick.nil ?_
    exact congrArg (Value.int .i64) (by omega)
end Go.Proofs.YtjaeblkgjbncmaaDoor

/-
  natform.Bytes.
-/
namespace Go.Proofs.YtjaeblkgjbncmaaDoor
set_option maxRecDepth 20000
set_option linter.unusedSimpArgs false
set_option linter.unusedVariables false
open Go Go.Fw
attribute [local irreducible] CW OL OD FX Stp FnC FnV Ret wI vd strOf bI bmid
set_option maxHeartbeats 800000

theorem bytes_spec {M : View} {w : World} (hM : View.le M (View.of w)) {a : Option Addr} {b o c k N : Nat} (hN : N < W ^ k) (hk : k ≤ 1000) (s : SlA M (eK .u32) 1 a (wI k N) b o) (sz : Int) :
    FnC Tryd.prog 17 [.agg [.slice a k c].toArray, .int .i64 sz] w (BRs (byP k N sz)) := by
  refine enterF (M := M) Tryd.func17 rfl rfl rfl rfl hM ?_
  refine cw_none 5 ?_
  unfold byP
  have kv := fun (w' : World) (h : View.le M (View.of w')) => valid_spec h (c := c) hN (by omega) s
  by_cases hv : vd k N = false
  · rw [if_pos hv]
    rw [hv] at kv
    repeat' first
      | apply cw_seq
      | (refine cw_region_id 0 ?_; (apply ol_val; exact rfl; first | (apply s_boxN; exact rfl; intro bk2) | (apply s_box1; exact rfl; exact rfl; intro bk2)); (apply ol_as; exact rfl; exact rfl); (apply ol_as; exact rfl; exact rfl); (apply ol_nil))
      | (refine cw_region_id 1 ?_; (apply ol_ldN; exact rfl; exact rfl; exact rfl; exact sz_25; (apply RdN.own; (focus ((repeat constructor); done)); (focus ((repeat (first | exact rfl | constructor)); done)))); (apply ol_val; exact rfl; apply s_callv; exact rfl; exact gf_25; (intro w' hw'; exact kv w' hw'.le)); (apply ol_val; exact rfl; apply stp_pur; first | (apply s_not_t; exact rfl; (first | exact rfl | assumption)) | (apply s_not_f; exact rfl; (first | exact rfl | assumption)) | (apply s_not; exact rfl)); (apply ol_as; exact rfl; exact rfl); (apply ol_nil))
      | (refine cw_region_id 2 ?_; (apply ol_as; exact rfl; exact rfl); (apply ol_as; exact rfl; exact rfl); (apply ol_nil))
      | (refine cw_region_id 3 ?_; (apply ol_mv; exact rfl; exact rfl); (apply ol_val; exact rfl; apply stp_cmp; apply s_lss; exact rfl; exact rfl; all_goals (intro hc15; try (exfalso; (first | exact hc15 rfl | omega)))); all_goals (apply ol_mv; exact rfl; exact rfl); all_goals (first | (apply ol_gskip; exact rfl; exact rfl; (first | exact rfl | assumption); exact rfl) | (apply ol_gval; exact rfl; exact rfl; exact rfl; (first | exact rfl | assumption); apply stp_pur; apply s_move; exact rfl)); all_goals (first | (apply ol_gskip; exact rfl; exact rfl; (first | exact rfl | assumption); exact rfl) | (apply ol_gval; exact rfl; exact rfl; exact rfl; (first | exact rfl | assumption); apply stp_cmp; apply s_gtr; exact rfl; exact rfl; all_goals (intro hc18; try (exfalso; (first | exact hc18 rfl | omega))))); all_goals (apply ol_val; exact rfl; apply stp_pur; first | (apply s_pick_t; exact rfl; (first | exact rfl | assumption); exact rfl) | (apply s_pick_f; exact rfl; (first | exact rfl | assumption); exact rfl)); all_goals (apply ol_as; exact rfl; exact rfl); all_goals (apply ol_nil))
      | (refine cw_region_id 4 ?_; (apply ol_as; exact rfl; exact rfl); (apply ol_as; exact rfl; exact rfl); (apply ol_nil))
      | (refine cw_region_id 5 ?_; (apply ol_ldN; exact rfl; exact rfl; exact rfl; exact sz_25; (apply RdN.own; (focus ((repeat constructor); done)); (focus ((repeat (first | exact rfl | constructor)); done)))))
      | (refine cw_region_id 6 ?_; (apply ol_as; exact rfl; exact rfl); (apply ol_as; exact rfl; exact rfl); (apply ol_nil))
      | (refine cw_region_id 7 ?_; (apply ol_mv; exact rfl; exact rfl); (apply ol_val; exact rfl; apply s_makeB; exact rfl; exact rfl; exact el_33; exact sz_5; exact zb_5; exact rfl; exact by_5; omega; omega; omega; intro bk27); (apply ol_as; exact rfl; exact rfl); (apply ol_nil))
      | (refine cw_region_id 8 ?_; (apply ol_mv; exact rfl; exact rfl); (apply ol_val; exact rfl; apply stp_pur; apply s_len; exact rfl; exact el_33); (apply ol_mv; exact rfl; exact rfl); (apply ol_nil))
      | (apply cw_cond_true; exact rfl; (first | exact rfl | assumption))
      | (apply cw_cond_false; exact rfl; (first | exact rfl | assumption))
      | apply cw_skip
      | apply cw_ret
      | apply cw_block
      | apply cw_exit
    refine ends [⟨none, [], 5⟩] (RVal.tmp rfl (RVal.tmp rfl RVal.nil)) (by (repeat (first | exact Pick.nil | (apply Pick.cons; (focus ((repeat (first | exact Spl.here | apply Spl.there)); done))) | exact Pick.refl))) ?_
    exact ⟨_, rfl, RowRes.nil8⟩
  · rw [if_neg hv]
    have hv1 : vd k N = true := by simpa using hv
    rw [hv1] at kv
    by_cases hs : sz < 0 ∨ 1000 < sz
    · rw [if_pos hs]
      repeat' first
        | apply cw_seq
        | (refine cw_region_id 0 ?_; (apply ol_val; exact rfl; first | (apply s_boxN; exact rfl; intro bk2) | (apply s_box1; exact rfl; exact rfl; intro bk2)); (apply ol_as; exact rfl; exact rfl); (apply ol_as; exact rfl; exact rfl); (apply ol_nil))
        | (refine cw_region_id 1 ?_; (apply ol_ldN; exact rfl; exact rfl; exact rfl; exact sz_25; (apply RdN.own; (focus ((repeat constructor); done)); (focus ((repeat (first | exact rfl | constructor)); done)))); (apply ol_val; exact rfl; apply s_callv; exact rfl; exact gf_25; (intro w' hw'; exact kv w' hw'.le)); (apply ol_val; exact rfl; apply stp_pur; first | (apply s_not_t; exact rfl; (first | exact rfl | assumption)) | (apply s_not_f; exact rfl; (first | exact rfl | assumption)) | (apply s_not; exact rfl)); (apply ol_as; exact rfl; exact rfl); (apply ol_nil))
        | (refine cw_region_id 2 ?_; (apply ol_as; exact rfl; exact rfl); (apply ol_as; exact rfl; exact rfl); (apply ol_nil))
        | (refine cw_region_id 3 ?_; (apply ol_mv; exact rfl; exact rfl); (apply ol_val; exact rfl; apply stp_cmp; apply s_lss; exact rfl; exact rfl; all_goals (intro hc15; try (exfalso; (first | exact hc15 rfl | omega)))); all_goals (apply ol_mv; exact rfl; exact rfl); all_goals (first | (apply ol_gskip; exact rfl; exact rfl; (first | exact rfl | assumption); exact rfl) | (apply ol_gval; exact rfl; exact rfl; exact rfl; (first | exact rfl | assumption); apply stp_pur; apply s_move; exact rfl)); all_goals (first | (apply ol_gskip; exact rfl; exact rfl; (first | exact rfl | assumption); exact rfl) | (apply ol_gval; exact rfl; exact rfl; exact rfl; (first | exact rfl | assumption); apply stp_cmp; apply s_gtr; exact rfl; exact rfl; all_goals (intro hc18; try (exfalso; (first | exact hc18 rfl | omega))))); all_goals (apply ol_val; exact rfl; apply stp_pur; first | (apply s_pick_t; exact rfl; (first | exact rfl | assumption); exact rfl) | (apply s_pick_f; exact rfl; (first | exact rfl | assumption); exact rfl)); all_goals (apply ol_as; exact rfl; exact rfl); all_goals (apply ol_nil))
        | (refine cw_region_id 4 ?_; (apply ol_as; exact rfl; exact rfl); (apply ol_as; exact rfl; exact rfl); (apply ol_nil))
        | (refine cw_region_id 5 ?_; (apply ol_ldN; exact rfl; exact rfl; exact rfl; exact sz_25; (apply RdN.own; (focus ((repeat constructor); done)); (focus ((repeat (first | exact rfl | constructor)); done)))))
        | (refine cw_region_id 6 ?_; (apply ol_as; exact rfl; exact rfl); (apply ol_as; exact rfl; exact rfl); (apply ol_nil))
        | (refine cw_region_id 7 ?_; (apply ol_mv; exact rfl; exact rfl); (apply ol_val; exact rfl; apply s_makeB; exact rfl; exact rfl; exact el_33; exact sz_5; exact zb_5; exact rfl; exact by_5; omega; omega; omega; intro bk27); (apply ol_as; exact rfl; exact rfl); (apply ol_nil))
        | (refine cw_region_id 8 ?_; (apply ol_mv; exact rfl; exact rfl); (apply ol_val; exact rfl; apply stp_pur; apply s_len; exact rfl; exact el_33); (apply ol_mv; exact rfl; exact rfl); (apply ol_nil))
        | (apply cw_cond_true; exact rfl; (first | exact rfl | assumption))
        | (apply cw_cond_false; exact rfl; (first | exact rfl | assumption))
        | apply cw_skip
        | apply cw_ret
        | apply cw_block
        | apply cw_exit
      all_goals
        refine ends [⟨none, [], 5⟩] (RVal.tmp rfl (RVal.tmp rfl RVal.nil)) (by (repeat (first | exact Pick.nil | (apply Pick.cons; (focus ((repeat (first | exact Spl.here | apply Spl.there)); done))) | exact Pick.refl))) ?_
        exact ⟨_, rfl, RowRes.nil8⟩
    · rw [if_neg hs]
      obtain ⟨z, rfl⟩ := Int.eq_ofNat_of_zero_le (show 0 ≤ sz by omega)
      rw [Int.toNat_natCast]
      have kb := fun (w' : World) (h : View.le M (View.of w')) => bits_spec h (c := c) hv1 s
      have hbs := bits_size (N := N) (s := z)
      have hbl : nd 2 N ≤ 32 * k := nd_le (by decide) (by rw [Nat.pow_mul, ← W_2]; exact hN)
      by_cases hlt : N < 256 ^ z
      · rw [if_neg (show ¬ ¬ N < 256 ^ z from fun h => h hlt)]
        have hb2 : ¬ 8 * z < nd 2 N := fun h => hbs.1 h hlt
        clear hbs
        generalize nd 2 N = Y at *
        repeat' first
          | apply cw_seq
          | (refine cw_region_id 0 ?_; (apply ol_val; exact rfl; first | (apply s_boxN; exact rfl; intro bk2) | (apply s_box1; exact rfl; exact rfl; intro bk2)); (apply ol_as; exact rfl; exact rfl); (apply ol_as; exact rfl; exact rfl); (apply ol_nil))
          | (refine cw_region_id 1 ?_; (apply ol_ldN; exact rfl; exact rfl; exact rfl; exact sz_25; (apply RdN.own; (focus ((repeat constructor); done)); (focus ((repeat (first | exact rfl | constructor)); done)))); (apply ol_val; exact rfl; apply s_callv; exact rfl; exact gf_25; (intro w' hw'; exact kv w' hw'.le)); (apply ol_val; exact rfl; apply stp_pur; first | (apply s_not_t; exact rfl; (first | exact rfl | assumption)) | (apply s_not_f; exact rfl; (first | exact rfl | assumption)) | (apply s_not; exact rfl)); (apply ol_as; exact rfl; exact rfl); (apply ol_nil))
          | (refine cw_region_id 2 ?_; (apply ol_as; exact rfl; exact rfl); (apply ol_as; exact rfl; exact rfl); (apply ol_nil))
          | (refine cw_region_id 3 ?_; (apply ol_mv; exact rfl; exact rfl); (apply ol_val; exact rfl; apply stp_cmp; apply s_lss; exact rfl; exact rfl; all_goals (intro hc15; try (exfalso; (first | exact hc15 rfl | omega)))); all_goals (apply ol_mv; exact rfl; exact rfl); all_goals (first | (apply ol_gskip; exact rfl; exact rfl; (first | exact rfl | assumption); exact rfl) | (apply ol_gval; exact rfl; exact rfl; exact rfl; (first | exact rfl | assumption); apply stp_pur; apply s_move; exact rfl)); all_goals (first | (apply ol_gskip; exact rfl; exact rfl; (first | exact rfl | assumption); exact rfl) | (apply ol_gval; exact rfl; exact rfl; exact rfl; (first | exact rfl | assumption); apply stp_cmp; apply s_gtr; exact rfl; exact rfl; all_goals (intro hc18; try (exfalso; (first | exact hc18 rfl | omega))))); all_goals (apply ol_val; exact rfl; apply stp_pur; first | (apply s_pick_t; exact rfl; (first | exact rfl | assumption); exact rfl) | (apply s_pick_f; exact rfl; (first | exact rfl | assumption); exact rfl)); all_goals (apply ol_as; exact rfl; exact rfl); all_goals (apply ol_nil))
          | (refine cw_region_id 4 ?_; (apply ol_as; exact rfl; exact rfl); (apply ol_as; exact rfl; exact rfl); (apply ol_nil))
          | (refine cw_region_id 5 ?_; (apply ol_ldN; exact rfl; exact rfl; exact rfl; exact sz_25; (apply RdN.own; (focus ((repeat constructor); done)); (focus ((repeat (first | exact rfl | constructor)); done)))); (apply ol_val; exact rfl; apply s_callv; exact rfl; exact gf_34; (intro w' hw'; exact kb w' hw'.le)); (apply ol_mv; exact rfl; exact rfl); (apply ol_val; exact rfl; apply stp_pur; apply s_mul64; exact rfl; exact rfl; omega); (apply ol_val; exact rfl; apply stp_cmp; apply s_gtr; exact rfl; exact rfl; all_goals (intro hc25; try (exfalso; (first | exact hc25 rfl | omega)))); all_goals (apply ol_as; exact rfl; exact rfl); all_goals (apply ol_nil))
          | (refine cw_region_id 6 ?_; (apply ol_as; exact rfl; exact rfl); (apply ol_as; exact rfl; exact rfl); (apply ol_nil))
          | (refine cw_region_id 7 ?_; (apply ol_mv; exact rfl; exact rfl); (apply ol_val; exact rfl; apply s_makeB; exact rfl; exact rfl; exact el_33; exact sz_5; exact zb_5; exact rfl; exact by_5; omega; omega; omega; intro bk27); (apply ol_as; exact rfl; exact rfl); (apply ol_nil))
          | (refine cw_region_id 8 ?_; (apply ol_mv; exact rfl; exact rfl); (apply ol_val; exact rfl; apply stp_pur; apply s_len; exact rfl; exact el_33); (apply ol_mv; exact rfl; exact rfl); (apply ol_nil))
          | (apply cw_cond_true; exact rfl; (first | exact rfl | assumption))
          | (apply cw_cond_false; exact rfl; (first | exact rfl | assumption))
          | apply cw_skip
          | apply cw_ret
          | apply cw_block
          | apply cw_exit
        refine cw_loopK (σ := Nat) [1, 2, 6, 29] (by (repeat (first | exact Keep.nil | (apply Keep.cons; exact rfl)))) (fun i => [(30, .int .i64 i)]) (fun _ => M) (fun i => [⟨some bk27, flat (eK .u8) (bmid z N i) ++ [], 5⟩, ⟨some bk2, [.slice a k c], 25⟩]) (fun i => i ≤ z) (fun i => z - i) 0 (by (repeat (first | exact trivial | refine And.intro rfl ?_))) (View.le.refl _) (by rw [bmid_zero, flat_zeros8]; (repeat (first | exact Pick.nil | (apply Pick.cons; (focus ((repeat (first | exact Spl.here | apply Spl.there)); done))) | exact Pick.refl))) (Nat.zero_le _) ?_
        intro i hi
        by_cases hiz : i < z
        · by_cases hq : i / 4 < k
          · have hl : i / 4 < (wI k N).length := by rw [wI_length]; omega
            have hc := s.cells (i / 4) hl
            have hqo : o + ((i : Int) / 4).toNat * 1 = o + (i / 4) * 1 := by omega
            rw [← hqo, wI_get hl] at hc
            have hlen := bmid_length (N := N) (show i ≤ z by omega)
            have hset := bmid_set (N := N) hiz
            rw [← byte_of_word N i] at hset
            have hX : N / W ^ (i / 4) % W < W := Nat.mod_lt _ W_pos
            generalize N / W ^ (i / 4) % W = X at *
            have hX32 : X < 4294967296 := hX
            have hsr := shr8 X i
            have hw := wrap8 (X / 256 ^ (i % 4))
            generalize X / 256 ^ (i % 4) = Y2 at *
            generalize hB : bmid z N i = B at *
            have hs2 : SetAt (flat (eK .u8) B ++ []) (0 + ((z : Int) - 1 - (i : Int)).toNat * 1) (.int .u8 (((Y2 % 256 : Nat)) : Int)) (flat (eK .u8) (bmid z N (i + 1)) ++ []) := by
              rw [show ((z : Int) - 1 - (i : Int)).toNat = z - 1 - i by omega]
              have := setAtK (k := .u8) (sp := []) (v := ((Y2 % 256 : Nat) : Int)) (show z - 1 - i < B.length by omega)
              rwa [hset] at this
            repeat' first
              | apply cw_seq
              | (refine cw_region_id 9 ?_; (apply ol_val; exact rfl; apply stp_cmp; apply s_lss; exact rfl; exact rfl; all_goals (intro hc31; try (exfalso; (first | exact hc31 rfl | omega)))); all_goals (apply ol_nil))
              | (refine cw_region_id 10 ?_; (apply ol_mv; exact rfl; exact rfl); (apply ol_as; exact rfl; exact rfl); (apply ol_nil))
              | (refine cw_region_id 11 ?_; (apply ol_mv; exact rfl; exact rfl); (apply ol_val; exact rfl; apply stp_pur; first | (apply s_quo64; exact rfl; exact rfl; omega) | (apply s_quoT; exact rfl; exact rfl; omega)); (apply ol_as; exact rfl; exact rfl); (apply ol_nil))
              | (refine cw_region_id 12 ?_; (apply ol_mv; exact rfl; exact rfl); (apply ol_fa; exact rfl; exact rfl; exact fd_25_0; (first | exact Nat.zero_add _ | exact Nat.add_zero _ | exact rfl)); (apply ol_ld; exact rfl; exact rfl; exact rfl; (first | (apply RdN.own; (focus ((repeat constructor); done)); exact GetN.cons rfl GetN.nil) | (apply RdN.view; exact hc))); (apply ol_val; exact rfl; apply stp_pur; apply s_len; exact rfl; exact el_23); (apply ol_val; exact rfl; apply stp_cmp; apply s_lss; exact rfl; exact rfl; all_goals (intro hc39; try (exfalso; (first | exact hc39 rfl | omega)))); all_goals (apply ol_nil))
              | (refine cw_region_id 13 ?_; (apply ol_mv; exact rfl; exact rfl); (apply ol_mv; exact rfl; exact rfl); (apply ol_val; exact rfl; apply stp_pur; apply s_sub64; exact rfl; exact rfl; omega); (apply ol_mv; exact rfl; exact rfl); (apply ol_val; exact rfl; apply stp_pur; apply s_sub64; exact rfl; exact rfl; omega); (apply ol_fa; exact rfl; exact rfl; exact fd_25_0; (first | exact Nat.zero_add _ | exact Nat.add_zero _ | exact rfl)); (apply ol_ld; exact rfl; exact rfl; exact rfl; (first | (apply RdN.own; (focus ((repeat constructor); done)); exact GetN.cons rfl GetN.nil) | (apply RdN.view; exact hc))); (apply ol_mv; exact rfl; exact rfl); (apply ol_val; exact rfl; apply stp_pur; first | (apply s_indexK; exact rfl; exact rfl; exact el_23; exact sz_51; (first | exact rfl | (first | exact s.at_ (by rw [wI_length]; omega) | exact rfl)); omega) | (apply s_indexO; exact rfl; exact rfl; exact el_23; exact sz_51; (first | exact rfl | (first | exact s.at_ (by rw [wI_length]; omega) | exact rfl)); omega)); (apply ol_ld; exact rfl; exact rfl; exact rfl; (first | (apply RdN.own; (focus ((repeat constructor); done)); (first | exact GetN.cons rfl GetN.nil | (apply getN_ints_app; (first | omega | (simp; omega) | (simp; done))) | (apply getN_ints; (first | omega | (simp; omega) | (simp; done))))) | (apply RdN.view; exact hc))); (apply ol_mv; exact rfl; exact rfl); (apply ol_val; exact rfl; apply stp_pur; first | (apply s_rem64; exact rfl; exact rfl; omega) | (apply s_remT; exact rfl; exact rfl; omega)); (apply ol_val; exact rfl; apply stp_pur; apply s_mul64; exact rfl; exact rfl; omega); (apply ol_val; exact rfl; apply stp_pur; apply s_shrE; exact rfl; exact rfl; (first | decide | omega | (simp [IntKind.bits]; omega) | (simp [IntKind.bits]; done)); exact hsr); (apply ol_val; exact rfl; apply stp_pur; first | (apply s_conv; exact rfl; exact rfl; exact ti_5; (focus (apply wrap_u8; omega))) | (apply s_conv; exact rfl; exact rfl; exact ti_5; exact hw) | (apply s_conv; exact rfl; exact rfl; exact ti_5; exact rfl)); (apply ol_val; exact rfl; apply stp_pur; first | (apply s_indexK; exact rfl; exact rfl; exact el_33; exact sz_5; (first | exact rfl | (first | exact s.at_ (by rw [wI_length]; omega) | exact rfl)); omega) | (apply s_indexO; exact rfl; exact rfl; exact el_33; exact sz_5; (first | exact rfl | (first | exact s.at_ (by rw [wI_length]; omega) | exact rfl)); omega)); (apply ol_eff; apply s_store1; exact rfl; exact rfl; exact sz_5; exact rfl; (focus ((repeat constructor); done)); (first | (focus ((repeat constructor); done)) | (apply setAt_ints_app; (first | omega | (simp; omega) | (simp; done))) | (apply setAt_ints; (first | omega | (simp; omega) | (simp; done))) | exact hs2 | (apply SetAt.set; (first | omega | (simp; omega) | (simp; done))))); (apply ol_nil))
              | (refine cw_region_id 14 ?_; (apply ol_val; exact rfl; apply stp_pur; apply s_add64; exact rfl; exact rfl; omega); (apply ol_mv; exact rfl; exact rfl); (apply ol_nil))
              | (refine cw_region_id 15 ?_; (apply ol_mv; exact rfl; exact rfl); (apply ol_as; exact rfl; exact rfl); (apply ol_as; exact rfl; exact rfl); (apply ol_nil))
              | (apply cw_cond_true; exact rfl; (first | exact rfl | assumption))
              | (apply cw_cond_false; exact rfl; (first | exact rfl | assumption))
              | apply cw_skip
              | apply cw_ret
              | apply cw_block
              | apply cw_exit
            exact ⟨i + 1, ⟨by (repeat (first | exact trivial | refine And.intro rfl ?_)), View.le.refl _, by (repeat (first | exact Pick.nil | (apply Pick.cons; (focus ((repeat (first | exact Spl.here | apply Spl.there)); done))) | exact Pick.refl)), hiz, by omega⟩⟩
          · rw [bmid_out hiz (byte_out hN hq)]
            repeat' first
              | apply cw_seq
              | (refine cw_region_id 9 ?_; (apply ol_val; exact rfl; apply stp_cmp; apply s_lss; exact rfl; exact rfl; all_goals (intro hc31; try (exfalso; (first | exact hc31 rfl | omega)))); all_goals (apply ol_nil))
              | (refine cw_region_id 10 ?_; (apply ol_mv; exact rfl; exact rfl); (apply ol_as; exact rfl; exact rfl); (apply ol_nil))
              | (refine cw_region_id 11 ?_; (apply ol_mv; exact rfl; exact rfl); (apply ol_val; exact rfl; apply stp_pur; first | (apply s_quo64; exact rfl; exact rfl; omega) | (apply s_quoT; exact rfl; exact rfl; omega)); (apply ol_as; exact rfl; exact rfl); (apply ol_nil))
              | (refine cw_region_id 12 ?_; (apply ol_mv; exact rfl; exact rfl); (apply ol_fa; exact rfl; exact rfl; exact fd_25_0; (first | exact Nat.zero_add _ | exact Nat.add_zero _ | exact rfl)); (apply ol_ld; exact rfl; exact rfl; exact rfl; (apply RdN.own; (focus ((repeat constructor); done)); exact GetN.cons rfl GetN.nil)); (apply ol_val; exact rfl; apply stp_pur; apply s_len; exact rfl; exact el_23); (apply ol_val; exact rfl; apply stp_cmp; apply s_lss; exact rfl; exact rfl; all_goals (intro hc39; try (exfalso; (first | exact hc39 rfl | omega)))); all_goals (apply ol_nil))
              | (refine cw_region_id 13 ?_; (apply ol_mv; exact rfl; exact rfl); (apply ol_mv; exact rfl; exact rfl); (apply ol_val; exact rfl; apply stp_pur; apply s_sub64; exact rfl; exact rfl; omega); (apply ol_mv; exact rfl; exact rfl); (apply ol_val; exact rfl; apply stp_pur; apply s_sub64; exact rfl; exact rfl; omega); (apply ol_fa; exact rfl; exact rfl; exact fd_25_0; (first | exact Nat.zero_add _ | exact Nat.add_zero _ | exact rfl)); (apply ol_ld; exact rfl; exact rfl; exact rfl; (apply RdN.own; (focus ((repeat constructor); done)); exact GetN.cons rfl GetN.nil)); (apply ol_mv; exact rfl; exact rfl); (apply ol_val; exact rfl; apply stp_pur; first | (apply s_indexK; exact rfl; exact rfl; exact el_23; exact sz_51; (first | exact rfl); omega) | (apply s_indexO; exact rfl; exact rfl; exact el_23; exact sz_51; (first | exact rfl); omega)); (apply ol_ld; exact rfl; exact rfl; exact rfl; (apply RdN.own; (focus ((repeat constructor); done)); (first | exact GetN.cons rfl GetN.nil | (apply getN_ints_app; (first | omega | (simp; omega) | (simp; done))) | (apply getN_ints; (first | omega | (simp; omega) | (simp; done)))))); (apply ol_mv; exact rfl; exact rfl); (apply ol_val; exact rfl; apply stp_pur; first | (apply s_rem64; exact rfl; exact rfl; omega) | (apply s_remT; exact rfl; exact rfl; omega)); (apply ol_val; exact rfl; apply stp_pur; apply s_mul64; exact rfl; exact rfl; omega); (apply ol_val; exact rfl; apply stp_pur; apply s_shr; exact rfl; exact rfl; (first | decide | omega | (simp [IntKind.bits]; omega) | (simp [IntKind.bits]; done))); (apply ol_val; exact rfl; apply stp_pur; first | (apply s_conv; exact rfl; exact rfl; exact ti_5; (focus (apply wrap_u8; omega))) | (apply s_conv; exact rfl; exact rfl; exact ti_5; exact rfl)); (apply ol_val; exact rfl; apply stp_pur; first | (apply s_indexK; exact rfl; exact rfl; exact el_33; exact sz_5; (first | exact rfl); omega) | (apply s_indexO; exact rfl; exact rfl; exact el_33; exact sz_5; (first | exact rfl); omega)); (apply ol_eff; apply s_store1; exact rfl; exact rfl; exact sz_5; exact rfl; (focus ((repeat constructor); done)); (first | (focus ((repeat constructor); done)) | (apply setAt_ints_app; (first | omega | (simp; omega) | (simp; done))) | (apply setAt_ints; (first | omega | (simp; omega) | (simp; done))) | (apply SetAt.set; (first | omega | (simp; omega) | (simp; done))))); (apply ol_nil))
              | (refine cw_region_id 14 ?_; (apply ol_val; exact rfl; apply stp_pur; apply s_add64; exact rfl; exact rfl; omega); (apply ol_mv; exact rfl; exact rfl); (apply ol_nil))
              | (refine cw_region_id 15 ?_; (apply ol_mv; exact rfl; exact rfl); (apply ol_as; exact rfl; exact rfl); (apply ol_as; exact rfl; exact rfl); (apply ol_nil))
              | (apply cw_cond_true; exact rfl; (first | exact rfl | assumption))
              | (apply cw_cond_false; exact rfl; (first | exact rfl | assumption))
              | apply cw_skip
              | apply cw_ret
              | apply cw_block
              | apply cw_exit
            exact ⟨i + 1, ⟨by (repeat (first | exact trivial | refine And.intro rfl ?_)), View.le.refl _, by (repeat (first | exact Pick.nil | (apply Pick.cons; (focus ((repeat (first | exact Spl.here | apply Spl.there)); done))) | exact Pick.refl)), hiz, by omega⟩⟩
        · obtain rfl : i = z := by omega
          rw [bmid_end]
          repeat' first
            | apply cw_seq
            | (refine cw_region_id 9 ?_; (apply ol_val; exact rfl; apply stp_cmp; apply s_lss; exact rfl; exact rfl; all_goals (intro hc31; try (exfalso; (first | exact hc31 rfl | omega)))); all_goals (apply ol_nil))
            | (refine cw_region_id 10 ?_; (apply ol_mv; exact rfl; exact rfl); (apply ol_as; exact rfl; exact rfl); (apply ol_nil))
            | (refine cw_region_id 11 ?_; (apply ol_mv; exact rfl; exact rfl); (apply ol_val; exact rfl; apply stp_pur; first | (apply s_quo64; exact rfl; exact rfl; omega) | (apply s_quoT; exact rfl; exact rfl; omega)); (apply ol_as; exact rfl; exact rfl); (apply ol_nil))
            | (refine cw_region_id 12 ?_; (apply ol_mv; exact rfl; exact rfl); (apply ol_fa; exact rfl; exact rfl; exact fd_25_0; (first | exact Nat.zero_add _ | exact Nat.add_zero _ | exact rfl)); (apply ol_ld; exact rfl; exact rfl; exact rfl; (apply RdN.own; (focus ((repeat constructor); done)); exact GetN.cons rfl GetN.nil)); (apply ol_val; exact rfl; apply stp_pur; apply s_len; exact rfl; exact el_23); (apply ol_val; exact rfl; apply stp_cmp; apply s_lss; exact rfl; exact rfl; all_goals (intro hc39; try (exfalso; (first | exact hc39 rfl | omega)))); all_goals (apply ol_nil))
            | (refine cw_region_id 13 ?_; (apply ol_mv; exact rfl; exact rfl); (apply ol_mv; exact rfl; exact rfl); (apply ol_val; exact rfl; apply stp_pur; apply s_sub64; exact rfl; exact rfl; omega); (apply ol_mv; exact rfl; exact rfl); (apply ol_val; exact rfl; apply stp_pur; apply s_sub64; exact rfl; exact rfl; omega); (apply ol_fa; exact rfl; exact rfl; exact fd_25_0; (first | exact Nat.zero_add _ | exact Nat.add_zero _ | exact rfl)); (apply ol_ld; exact rfl; exact rfl; exact rfl; (apply RdN.own; (focus ((repeat constructor); done)); exact GetN.cons rfl GetN.nil)); (apply ol_mv; exact rfl; exact rfl); (apply ol_val; exact rfl; apply stp_pur; first | (apply s_indexK; exact rfl; exact rfl; exact el_23; exact sz_51; (first | exact rfl); omega) | (apply s_indexO; exact rfl; exact rfl; exact el_23; exact sz_51; (first | exact rfl); omega)); (apply ol_ld; exact rfl; exact rfl; exact rfl; (apply RdN.own; (focus ((repeat constructor); done)); (first | exact GetN.cons rfl GetN.nil | (apply getN_ints_app; (first | omega | (simp; omega) | (simp; done))) | (apply getN_ints; (first | omega | (simp; omega) | (simp; done)))))); (apply ol_mv; exact rfl; exact rfl); (apply ol_val; exact rfl; apply stp_pur; first | (apply s_rem64; exact rfl; exact rfl; omega) | (apply s_remT; exact rfl; exact rfl; omega)); (apply ol_val; exact rfl; apply stp_pur; apply s_mul64; exact rfl; exact rfl; omega); (apply ol_val; exact rfl; apply stp_pur; apply s_shr; exact rfl; exact rfl; (first | decide | omega | (simp [IntKind.bits]; omega) | (simp [IntKind.bits]; done))); (apply ol_val; exact rfl; apply stp_pur; first | (apply s_conv; exact rfl; exact rfl; exact ti_5; (focus (apply wrap_u8; omega))) | (apply s_conv; exact rfl; exact rfl; exact ti_5; exact rfl)); (apply ol_val; exact rfl; apply stp_pur; first | (apply s_indexK; exact rfl; exact rfl; exact el_33; exact sz_5; (first | exact rfl); omega) | (apply s_indexO; exact rfl; exact rfl; exact el_33; exact sz_5; (first | exact rfl); omega)); (apply ol_eff; apply s_store1; exact rfl; exact rfl; exact sz_5; exact rfl; (focus ((repeat constructor); done)); (first | (focus ((repeat constructor); done)) | (apply setAt_ints_app; (first | omega | (simp; omega) | (simp; done))) | (apply setAt_ints; (first | omega | (simp; omega) | (simp; done))) | (apply SetAt.set; (first | omega | (simp; omega) | (simp; done))))); (apply ol_nil))
            | (refine cw_region_id 14 ?_; (apply ol_val; exact rfl; apply stp_pur; apply s_add64; exact rfl; exact rfl; omega); (apply ol_mv; exact rfl; exact rfl); (apply ol_nil))
            | (refine cw_region_id 15 ?_; (apply ol_mv; exact rfl; exact rfl); (apply ol_as; exact rfl; exact rfl); (apply ol_as; exact rfl; exact rfl); (apply ol_nil))
            | (apply cw_cond_true; exact rfl; (first | exact rfl | assumption))
            | (apply cw_cond_false; exact rfl; (first | exact rfl | assumption))
            | apply cw_skip
            | apply cw_ret
            | apply cw_block
            | apply cw_exit
          refine ends [⟨some bk27, flat (eK .u8) (bI i N) ++ [], 5⟩] (RVal.tmp rfl (RVal.tmp rfl RVal.nil)) (by (repeat (first | exact Pick.nil | (apply Pick.cons; (focus ((repeat (first | exact Spl.here | apply Spl.there)); done))) | exact Pick.refl))) ?_
          exact ⟨_, rfl, some bk27, none, i, [], by rw [bI_length]; rfl, rfl, ⟨by rw [flatK_length]; omega, by rw [flatK_length, bI_length, List.length_nil]; omega, by rw [bI_length]; exact Nat.le_refl _, fun h => by cases h⟩⟩
      · rw [if_pos hlt]
        have hb2 : 8 * z < nd 2 N := hbs.2 hlt
        clear hbs
        generalize nd 2 N = Y at *
        repeat' first
          | apply cw_seq
          | (refine cw_region_id 0 ?_; (apply ol_val; exact rfl; first | (apply s_boxN; exact rfl; intro bk2) | (apply s_box1; exact rfl; exact rfl; intro bk2)); (apply ol_as; exact rfl; exact rfl); (apply ol_as; exact rfl; exact rfl); (apply ol_nil))
          | (refine cw_region_id 1 ?_; (apply ol_ldN; exact rfl; exact rfl; exact rfl; exact sz_25; (apply RdN.own; (focus ((repeat constructor); done)); (focus ((repeat (first | exact rfl | constructor)); done)))); (apply ol_val; exact rfl; apply s_callv; exact rfl; exact gf_25; (intro w' hw'; exact kv w' hw'.le)); (apply ol_val; exact rfl; apply stp_pur; first | (apply s_not_t; exact rfl; (first | exact rfl | assumption)) | (apply s_not_f; exact rfl; (first | exact rfl | assumption)) | (apply s_not; exact rfl)); (apply ol_as; exact rfl; exact rfl); (apply ol_nil))
          | (refine cw_region_id 2 ?_; (apply ol_as; exact rfl; exact rfl); (apply ol_as; exact rfl; exact rfl); (apply ol_nil))
          | (refine cw_region_id 3 ?_; (apply ol_mv; exact rfl; exact rfl); (apply ol_val; exact rfl; apply stp_cmp; apply s_lss; exact rfl; exact rfl; all_goals (intro hc15; try (exfalso; (first | exact hc15 rfl | omega)))); all_goals (apply ol_mv; exact rfl; exact rfl); all_goals (first | (apply ol_gskip; exact rfl; exact rfl; (first | exact rfl | assumption); exact rfl) | (apply ol_gval; exact rfl; exact rfl; exact rfl; (first | exact rfl | assumption); apply stp_pur; apply s_move; exact rfl)); all_goals (first | (apply ol_gskip; exact rfl; exact rfl; (first | exact rfl | assumption); exact rfl) | (apply ol_gval; exact rfl; exact rfl; exact rfl; (first | exact rfl | assumption); apply stp_cmp; apply s_gtr; exact rfl; exact rfl; all_goals (intro hc18; try (exfalso; (first | exact hc18 rfl | omega))))); all_goals (apply ol_val; exact rfl; apply stp_pur; first | (apply s_pick_t; exact rfl; (first | exact rfl | assumption); exact rfl) | (apply s_pick_f; exact rfl; (first | exact rfl | assumption); exact rfl)); all_goals (apply ol_as; exact rfl; exact rfl); all_goals (apply ol_nil))
          | (refine cw_region_id 4 ?_; (apply ol_as; exact rfl; exact rfl); (apply ol_as; exact rfl; exact rfl); (apply ol_nil))
          | (refine cw_region_id 5 ?_; (apply ol_ldN; exact rfl; exact rfl; exact rfl; exact sz_25; (apply RdN.own; (focus ((repeat constructor); done)); (focus ((repeat (first | exact rfl | constructor)); done)))); (apply ol_val; exact rfl; apply s_callv; exact rfl; exact gf_34; (intro w' hw'; exact kb w' hw'.le)); (apply ol_mv; exact rfl; exact rfl); (apply ol_val; exact rfl; apply stp_pur; apply s_mul64; exact rfl; exact rfl; omega); (apply ol_val; exact rfl; apply stp_cmp; apply s_gtr; exact rfl; exact rfl; all_goals (intro hc25; try (exfalso; (first | exact hc25 rfl | omega)))); all_goals (apply ol_as; exact rfl; exact rfl); all_goals (apply ol_nil))
          | (refine cw_region_id 6 ?_; (apply ol_as; exact rfl; exact rfl); (apply ol_as; exact rfl; exact rfl); (apply ol_nil))
          | (refine cw_region_id 7 ?_; (apply ol_mv; exact rfl; exact rfl); (apply ol_val; exact rfl; apply s_makeB; exact rfl; exact rfl; exact el_33; exact sz_5; exact zb_5; exact rfl; exact by_5; omega; omega; omega; intro bk27); (apply ol_as; exact rfl; exact rfl); (apply ol_nil))
          | (refine cw_region_id 8 ?_; (apply ol_mv; exact rfl; exact rfl); (apply ol_val; exact rfl; apply stp_pur; apply s_len; exact rfl; exact el_33); (apply ol_mv; exact rfl; exact rfl); (apply ol_nil))
          | (apply cw_cond_true; exact rfl; (first | exact rfl | assumption))
          | (apply cw_cond_false; exact rfl; (first | exact rfl | assumption))
          | apply cw_skip
          | apply cw_ret
          | apply cw_block
          | apply cw_exit
        refine ends [⟨none, [], 5⟩] (RVal.tmp rfl (RVal.tmp rfl RVal.nil)) (by (repeat (first | exact Pick.nil | (apply Pick.cons; (focus ((repeat (first | exact Spl.here | apply Spl.there)); done))) | exact Pick.refl))) ?_
        exact ⟨_, rfl, RowRes.nil8⟩
end Go.Proofs.YtjaeblkgjbncmaaDoor

/-
  The reference's Bytes.
-/
namespace Go.Proofs.YtjaeblkgjbncmaaDoor
set_option maxRecDepth 20000
set_option linter.unusedSimpArgs false
set_option linter.unusedVariables false
open Go Go.Fw
attribute [local irreducible] CW OL OD FX Stp FnC FnV Ret wI vd strOf bI bmid
set_option maxHeartbeats 800000
structure QSt where
  j : Nat
  r : Option Nat
  A : Option Addr
  c : Nat
  sp : List Value
theorem rbytes_spec {M : View} {w : World} (hM : View.le M (View.of w)) {a : Option Addr} {b o c k N : Nat} (hN : N < W ^ k) (hk : k ≤ 1000) (s : SlA M (eK .u32) 1 a (wI k N) b o) (sz : Int) :
    FnC Tryd.prog 20 [.agg [.slice a k c].toArray, .int .i64 sz] w (BRs (byP k N sz)) := by
  refine enterF (M := M) Tryd.func20 rfl rfl rfl rfl hM ?_
  refine cw_none 5 ?_
  unfold byP
  have kv := fun (w' : World) (h : View.le M (View.of w')) => rvalid_spec h (c := c) hN (by omega) s
  by_cases hv : vd k N = false
  · rw [if_pos hv]
    rw [hv] at kv
    repeat' first
      | apply cw_seq
      | (refine cw_region_id 0 ?_; (apply ol_val; exact rfl; first | (apply s_boxN; exact rfl; intro bk2) | (apply s_box1; exact rfl; exact rfl; intro bk2)); (apply ol_as; exact rfl; exact rfl); (apply ol_as; exact rfl; exact rfl); (apply ol_nil))
      | (refine cw_region_id 1 ?_; (apply ol_ldN; exact rfl; exact rfl; exact rfl; exact sz_25; (apply RdN.own; (focus ((repeat constructor); done)); (focus ((repeat (first | exact rfl | constructor)); done)))); (apply ol_val; exact rfl; apply s_callv; exact rfl; exact gf_16; (intro w' hw'; exact kv w' hw'.le)); (apply ol_val; exact rfl; apply stp_pur; first | (apply s_not_t; exact rfl; (first | exact rfl | assumption)) | (apply s_not_f; exact rfl; (first | exact rfl | assumption)) | (apply s_not; exact rfl)); (apply ol_nil))
      | (refine cw_region_id 2 ?_; (apply ol_as; exact rfl; exact rfl); (apply ol_as; exact rfl; exact rfl); (apply ol_nil))
      | (apply cw_cond_true; exact rfl; (first | exact rfl | assumption))
      | (apply cw_cond_false; exact rfl; (first | exact rfl | assumption))
      | apply cw_skip
      | apply cw_ret
      | apply cw_block
      | apply cw_exit
    refine ends [⟨none, [], 5⟩] (RVal.tmp rfl (RVal.tmp rfl RVal.nil)) (by (repeat (first | exact Pick.nil | (apply Pick.cons; (focus ((repeat (first | exact Spl.here | apply Spl.there)); done))) | exact Pick.refl))) ?_
    exact ⟨_, rfl, RowRes.nil8⟩
  · rw [if_neg hv]
    have hv1 : vd k N = true := by simpa using hv
    have hk2 : k ≤ 64 ∧ nd W N = k := by unfold vd at hv1; simpa using hv1
    rw [hv1] at kv
    by_cases hs : sz < 0 ∨ 1000 < sz
    · rw [if_pos hs]
      repeat' first
        | apply cw_seq
        | (refine cw_region_id 0 ?_; (apply ol_val; exact rfl; first | (apply s_boxN; exact rfl; intro bk2) | (apply s_box1; exact rfl; exact rfl; intro bk2)); (apply ol_as; exact rfl; exact rfl); (apply ol_as; exact rfl; exact rfl); (apply ol_nil))
        | (refine cw_region_id 1 ?_; (apply ol_ldN; exact rfl; exact rfl; exact rfl; exact sz_25; (apply RdN.own; (focus ((repeat constructor); done)); (focus ((repeat (first | exact rfl | constructor)); done)))); (apply ol_val; exact rfl; apply s_callv; exact rfl; exact gf_16; (intro w' hw'; exact kv w' hw'.le)); (apply ol_val; exact rfl; apply stp_pur; first | (apply s_not_t; exact rfl; (first | exact rfl | assumption)) | (apply s_not_f; exact rfl; (first | exact rfl | assumption)) | (apply s_not; exact rfl)); (apply ol_nil))
        | (refine cw_region_id 3 ?_; (apply ol_mv; exact rfl; exact rfl); (apply ol_val; exact rfl; apply stp_cmp; apply s_lss; exact rfl; exact rfl; all_goals (intro hc15; try (exfalso; (first | exact hc15 rfl | omega)))); all_goals (apply ol_mv; exact rfl; exact rfl); all_goals (first | (apply ol_gskip; exact rfl; exact rfl; (first | exact rfl | assumption); exact rfl) | (apply ol_gval; exact rfl; exact rfl; exact rfl; (first | exact rfl | assumption); apply stp_pur; apply s_move; exact rfl)); all_goals (first | (apply ol_gskip; exact rfl; exact rfl; (first | exact rfl | assumption); exact rfl) | (apply ol_gval; exact rfl; exact rfl; exact rfl; (first | exact rfl | assumption); apply stp_cmp; apply s_gtr; exact rfl; exact rfl; all_goals (intro hc18; try (exfalso; (first | exact hc18 rfl | omega))))); all_goals (apply ol_val; exact rfl; apply stp_pur; first | (apply s_pick_t; exact rfl; (first | exact rfl | assumption); exact rfl) | (apply s_pick_f; exact rfl; (first | exact rfl | assumption); exact rfl)); all_goals (apply ol_nil))
        | (refine cw_region_id 4 ?_; (apply ol_as; exact rfl; exact rfl); (apply ol_as; exact rfl; exact rfl); (apply ol_nil))
        | (apply cw_cond_true; exact rfl; (first | exact rfl | assumption))
        | (apply cw_cond_false; exact rfl; (first | exact rfl | assumption))
        | apply cw_skip
        | apply cw_ret
        | apply cw_block
        | apply cw_exit
      all_goals
        refine ends [⟨none, [], 5⟩] (RVal.tmp rfl (RVal.tmp rfl RVal.nil)) (by (repeat (first | exact Pick.nil | (apply Pick.cons; (focus ((repeat (first | exact Spl.here | apply Spl.there)); done))) | exact Pick.refl))) ?_
        exact ⟨_, rfl, RowRes.nil8⟩
    · rw [if_neg hs]
      obtain ⟨z, rfl⟩ := Int.eq_ofNat_of_zero_le (show 0 ≤ sz by omega)
      rw [Int.toNat_natCast]
      have hall := SlA.all (eK_length .u32) s
      rw [wI_length] at hall
      repeat' first
        | apply cw_seq
        | (refine cw_region_id 0 ?_; (apply ol_val; exact rfl; first | (apply s_boxN; exact rfl; intro bk2) | (apply s_box1; exact rfl; exact rfl; intro bk2)); (apply ol_as; exact rfl; exact rfl); (apply ol_as; exact rfl; exact rfl); (apply ol_nil))
        | (refine cw_region_id 1 ?_; (apply ol_ldN; exact rfl; exact rfl; exact rfl; exact sz_25; (apply RdN.own; (focus ((repeat constructor); done)); (focus ((repeat (first | exact rfl | constructor)); done)))); (apply ol_val; exact rfl; apply s_callv; exact rfl; exact gf_16; (intro w' hw'; exact kv w' hw'.le)); (apply ol_val; exact rfl; apply stp_pur; first | (apply s_not_t; exact rfl; (first | exact rfl | assumption)) | (apply s_not_f; exact rfl; (first | exact rfl | assumption)) | (apply s_not; exact rfl)); (apply ol_nil))
        | (refine cw_region_id 3 ?_; (apply ol_mv; exact rfl; exact rfl); (apply ol_val; exact rfl; apply stp_cmp; apply s_lss; exact rfl; exact rfl; all_goals (intro hc15; try (exfalso; (first | exact hc15 rfl | omega)))); all_goals (apply ol_mv; exact rfl; exact rfl); all_goals (first | (apply ol_gskip; exact rfl; exact rfl; (first | exact rfl | assumption); exact rfl) | (apply ol_gval; exact rfl; exact rfl; exact rfl; (first | exact rfl | assumption); apply stp_pur; apply s_move; exact rfl)); all_goals (first | (apply ol_gskip; exact rfl; exact rfl; (first | exact rfl | assumption); exact rfl) | (apply ol_gval; exact rfl; exact rfl; exact rfl; (first | exact rfl | assumption); apply stp_cmp; apply s_gtr; exact rfl; exact rfl; all_goals (intro hc18; try (exfalso; (first | exact hc18 rfl | omega))))); all_goals (apply ol_val; exact rfl; apply stp_pur; first | (apply s_pick_t; exact rfl; (first | exact rfl | assumption); exact rfl) | (apply s_pick_f; exact rfl; (first | exact rfl | assumption); exact rfl)); all_goals (apply ol_nil))
        | (refine cw_region_id 5 ?_; (apply ol_val; exact rfl; apply s_buildSl; exact rfl; exact el_23; exact sz_51; exact zb_51; (focus ((repeat constructor); done)); exact rfl; exact rfl; (exact Nat.le_of_ble_eq_true rfl); (focus ((repeat constructor); done)); (focus ((repeat (first | exact rfl | constructor)); done)); intro bk20); (apply ol_fa; exact rfl; exact rfl; exact fd_25_0; (first | exact Nat.zero_add _ | exact Nat.add_zero _ | exact rfl)); (apply ol_ld; exact rfl; exact rfl; exact rfl; (apply RdN.own; (focus ((repeat constructor); done)); exact GetN.cons rfl GetN.nil)); (apply ol_val; exact rfl; first | (apply s_append_e; exact rfl; exact rfl; (focus ((repeat constructor); done)); exact el_23; exact sz_51; exact zb_51; exact rfl; exact by_51; (first | exact (fun _ => rfl) | (intro _; exact s.at_ (by rw [wI_length]; omega))); (first | (apply RdN.own; (focus ((repeat constructor); done)); (focus ((repeat (first | exact rfl | constructor)); done))) | (apply RdN.view; exact hall)); (first | exact rfl | exact ones_flat (fun _ => rfl) _); (first | omega | (simp; omega) | (simp; done)); (first | omega | (simp; omega) | (simp; done)); intro rk23 sk23 ck23 ok23) | (apply s_append_r; exact rfl; exact rfl; (focus ((repeat constructor); done)); (first | exact rfl | exact (List.append_nil _).symm); exact el_23; exact sz_51; exact zb_51; exact rfl; exact by_51; (first | exact SO.nil _ | assumption | (exact ⟨by simp, by simp, Nat.le_refl _, by simp⟩)); (first | exact (fun _ => rfl) | (intro _; exact s.at_ (by rw [wI_length]; omega))); (first | (apply RdN.own; (focus ((repeat constructor); done)); (focus ((repeat (first | exact rfl | constructor)); done))) | (apply RdN.view; exact hall)); (first | exact rfl | exact ones_flat (fun _ => rfl) _); (first | omega | (simp; omega) | (simp; done)); (first | omega | (simp; omega) | (simp; done)); intro rk23 sk23 ck23 ok23) | (apply s_append_b; exact rfl; exact rfl; (focus ((repeat constructor); done)); (first | exact rfl | exact (List.append_nil _).symm); exact el_23; exact sz_51; exact zb_51; exact rfl; exact by_51; (first | exact SO.nil _ | assumption | (exact ⟨by simp, by simp, Nat.le_refl _, by simp⟩)); (first | exact (fun _ => rfl) | (intro _; exact s.at_ (by rw [wI_length]; omega))); (first | (apply RdN.own; (focus ((repeat constructor); done)); (focus ((repeat (first | exact rfl | constructor)); done))) | (apply RdN.view; exact hall)); (first | exact rfl | exact ones_flat (fun _ => rfl) _); (first | omega | (simp; omega) | (simp; done)); (first | omega | (simp; omega) | (simp; done)); intro rk23 sk23 ck23 ok23) | (apply s_append_n; exact rfl; exact rfl; (focus ((repeat constructor); done)); exact el_23; exact sz_51; exact zb_51; exact rfl; exact by_51; (first | exact (fun _ => rfl) | (intro _; exact s.at_ (by rw [wI_length]; omega))); (first | (apply RdN.own; (focus ((repeat constructor); done)); (focus ((repeat (first | exact rfl | constructor)); done))) | (apply RdN.view; exact hall)); (first | exact rfl | exact ones_flat (fun _ => rfl) _); (first | omega | (simp; omega) | (simp; done)); (first | omega | (simp; omega) | (simp; done)); intro rk23 sk23 ck23 ok23)); (apply ol_as; exact rfl; exact rfl); (apply ol_nil))
        | (refine cw_region_id 6 ?_; (apply ol_mv; exact rfl; exact rfl); (apply ol_val; exact rfl; apply s_makeB; exact rfl; exact rfl; exact el_33; exact sz_5; exact zb_5; exact rfl; exact by_5; omega; omega; omega; intro bk25); (apply ol_as; exact rfl; exact rfl); (apply ol_nil))
        | (refine cw_region_id 7 ?_; (apply ol_mv; exact rfl; exact rfl); (apply ol_val; exact rfl; apply stp_pur; apply s_sub64; exact rfl; exact rfl; omega); (apply ol_as; exact rfl; exact rfl); (apply ol_nil))
        | (apply cw_cond_true; exact rfl; (first | exact rfl | assumption))
        | (apply cw_cond_false; exact rfl; (first | exact rfl | assumption))
        | apply cw_skip
        | apply cw_ret
        | apply cw_block
        | apply cw_exit
      refine cw_loopK (σ := QSt) [7] (by (repeat (first | exact Keep.nil | (apply Keep.cons; exact rfl)))) (fun s => [(6, .slice (base s.r s.A) (nd W (N / 256 ^ s.j)) s.c), (8, .int .i64 ((z : Int) - 1 - (s.j : Int)))]) (fun _ => M) (fun s => [⟨some bk25, flat (eK .u8) (bmid z N s.j) ++ [], 5⟩, ⟨s.r, flat (eK .u32) (wI (nd W (N / 256 ^ s.j)) (N / 256 ^ s.j)) ++ s.sp, 51⟩, ⟨none, [], 5⟩]) (fun s => s.j ≤ z ∧ SO s.r (nd W (N / 256 ^ s.j)) s.c (flat (eK .u32) (wI (nd W (N / 256 ^ s.j)) (N / 256 ^ s.j))) s.sp 1) (fun s => z - s.j) ⟨0, rk23, none, ck23, sk23⟩ (by dsimp only; rw [Nat.pow_zero, Nat.div_one, hk2.2, show (z : Int) - 1 - ((0 : Nat) : Int) = (z : Int) - 1 by omega]; (repeat (first | exact trivial | refine And.intro rfl ?_))) (View.le.refl _) (by dsimp only; rw [Nat.pow_zero, Nat.div_one, hk2.2, bmid_zero, flat_zeros8]; (repeat (first | exact Pick.nil | (apply Pick.cons; (focus ((repeat (first | exact Spl.here | apply Spl.there)); done))) | exact Pick.refl))) ⟨Nat.zero_le _, by dsimp only; rw [Nat.pow_zero, Nat.div_one, hk2.2]; exact ok23⟩ ?_
      rintro ⟨j, r, A, cp, sp⟩ ⟨hj, so⟩
      dsimp only at hj so
      dsimp only
      have hQk : nd W (N / 256 ^ j) ≤ 64 := by
        have := nd_mono (b := W) (by decide) (Nat.div_le_self N (256 ^ j))
        omega
      by_cases hjz : j < z
      · have hq1 : N / 256 ^ j / 256 = N / 256 ^ (j + 1) := by rw [Nat.div_div_eq_div_mul, Nat.pow_succ]
        have kd : ∀ (w' : World), OB.ok ⟨r, flat (eK .u32) (wI (nd W (N / 256 ^ j)) (N / 256 ^ j)) ++ sp, 51⟩ w' → FnC Tryd.prog 37 [.slice (base r A) (nd W (N / 256 ^ j)) cp, .int .u64 256] w' (fun v new => ∃ u, v = .tuple #[u, .int .u64 (N / 256 ^ j % 256 : Nat)] ∧ WR (nd W (N / 256 ^ (j + 1))) (N / 256 ^ (j + 1)) u new) := fun w' ho => by
          have := divide_spec (View.le.refl _) (d := 256) (c := cp) (by omega) (nd_lt (by decide) (N / 256 ^ j)) (by omega) (SlA.ownW (A := A) ho so)
          rwa [hq1] at this
        unfold WR at kd
        have hlen := bmid_length (N := N) (show j ≤ z by omega)
        have hset := bmid_set (N := N) hjz
        have hX : N / 256 ^ j % 256 < 256 := Nat.mod_lt _ (by decide)
        generalize N / 256 ^ j % 256 = X at *
        generalize hB : bmid z N j = B at *
        have hs2 : SetAt (flat (eK .u8) B ++ []) (0 + ((z : Int) - 1 - (j : Int)).toNat * 1) (.int .u8 ((X : Nat) : Int)) (flat (eK .u8) (bmid z N (j + 1)) ++ []) := by
          rw [show ((z : Int) - 1 - (j : Int)).toNat = z - 1 - j by omega]
          have := setAtK (k := .u8) (sp := []) (v := ((X : Nat) : Int)) (show z - 1 - j < B.length by omega)
          rwa [hset] at this
        have hst : (z : Int) - 1 - (j : Int) - 1 = (z : Int) - 1 - ((j + 1 : Nat) : Int) := by omega
        repeat' first
          | apply cw_seq
          | (refine cw_region_id 8 ?_; (apply ol_mv; exact rfl; exact rfl); (apply ol_val; exact rfl; apply stp_cmp; apply s_geq; exact rfl; exact rfl; all_goals (intro hc29; try (exfalso; (first | exact hc29 rfl | omega)))); all_goals (apply ol_nil))
          | (refine cw_region_id 10 ?_; (apply ol_mv; exact rfl; exact rfl); (apply ol_val; exact rfl; apply s_call; exact rfl; exact gf_37; (intro w' hw'; exact kd w' (hw'.ok_ (by (repeat (first | exact Has.here | apply Has.there))))); ((intro v new h; obtain ⟨_, rfl, r1, A1, cap1, sp1, rfl, rfl, so1⟩ := h))); (apply ol_mv; exact rfl; exact rfl); (apply ol_ex; exact rfl; exact rfl; exact rfl); (apply ol_ex; exact rfl; exact rfl; exact rfl); (apply ol_as; exact rfl; exact rfl); (apply ol_as; exact rfl; exact rfl); (apply ol_nil))
          | (refine cw_region_id 11 ?_; (apply ol_mv; exact rfl; exact rfl); (apply ol_mv; exact rfl; exact rfl); (apply ol_mv; exact rfl; exact rfl); (apply ol_val; exact rfl; apply stp_pur; first | (apply s_conv; exact rfl; exact rfl; exact ti_5; (focus (apply wrap_u8; omega))) | (apply s_conv; exact rfl; exact rfl; exact ti_5; exact rfl)); (apply ol_val; exact rfl; apply stp_pur; first | (apply s_indexK; exact rfl; exact rfl; exact el_33; exact sz_5; (first | exact rfl); omega) | (apply s_indexO; exact rfl; exact rfl; exact el_33; exact sz_5; (first | exact rfl); omega)); (apply ol_eff; apply s_store1; exact rfl; exact rfl; exact sz_5; exact rfl; (focus ((repeat constructor); done)); (first | (focus ((repeat constructor); done)) | (apply setAt_ints_app; (first | omega | (simp; omega) | (simp; done))) | (apply setAt_ints; (first | omega | (simp; omega) | (simp; done))) | exact hs2 | (apply SetAt.set; (first | omega | (simp; omega) | (simp; done))))); (apply ol_nil))
          | (refine cw_region_id 12 ?_; (apply ol_mv; exact rfl; exact rfl); (apply ol_as; exact rfl; exact rfl); (apply ol_nil))
          | (refine cw_region_id 9 ?_; (apply ol_mv; exact rfl; exact rfl); (apply ol_val; exact rfl; apply stp_pur; apply s_sub64; exact rfl; exact rfl; omega); (apply ol_as; exact rfl; exact rfl); (apply ol_nil))
          | (refine cw_region_id 13 ?_; (apply ol_mv; exact rfl; exact rfl); (apply ol_val; exact rfl; apply stp_pur; apply s_len; exact rfl; exact el_23); (apply ol_val; exact rfl; apply stp_cmp; apply s_gtr; exact rfl; exact rfl; all_goals (intro hc45; try (exfalso; (first | exact hc45 rfl | omega)))); all_goals (apply ol_nil))
          | (refine cw_region_id 14 ?_; (apply ol_as; exact rfl; exact rfl); (apply ol_as; exact rfl; exact rfl); (apply ol_nil))
          | (refine cw_region_id 15 ?_; (apply ol_mv; exact rfl; exact rfl); (apply ol_as; exact rfl; exact rfl); (apply ol_as; exact rfl; exact rfl); (apply ol_nil))
          | (apply cw_cond_true; exact rfl; (first | exact rfl | assumption))
          | (apply cw_cond_false; exact rfl; (first | exact rfl | assumption))
          | apply cw_skip
          | apply cw_ret
          | apply cw_block
          | apply cw_exit
        refine ⟨⟨j + 1, r1, A1, cap1, sp1⟩, ⟨?_, View.le.refl _, by (repeat (first | exact Pick.nil | (apply Pick.cons; (focus ((repeat (first | exact Spl.here | apply Spl.there)); done))) | exact Pick.refl)), ⟨hjz, so1⟩, by dsimp only; omega⟩⟩
        rw [hst]
        (repeat (first | exact trivial | refine And.intro rfl ?_))
      · obtain rfl : j = z := by omega
        rw [bmid_end]
        have hp : 0 < 256 ^ j := Nat.pow_pos (by decide)
        have hz : nd W (N / 256 ^ j) = 0 ↔ N < 256 ^ j := by rw [nd_zero_iff (by decide), Nat.div_eq_zero_iff_lt hp]
        by_cases hlt : N < 256 ^ j
        · rw [if_neg (show ¬ ¬ N < 256 ^ j from fun h => h hlt)]
          have h0 := hz.2 hlt
          repeat' first
            | apply cw_seq
            | (refine cw_region_id 8 ?_; (apply ol_mv; exact rfl; exact rfl); (apply ol_val; exact rfl; apply stp_cmp; apply s_geq; exact rfl; exact rfl; all_goals (intro hc29; try (exfalso; (first | exact hc29 rfl | omega)))); all_goals (apply ol_nil))
            | (refine cw_region_id 13 ?_; (apply ol_mv; exact rfl; exact rfl); (apply ol_val; exact rfl; apply stp_pur; apply s_len; exact rfl; exact el_23); (apply ol_val; exact rfl; apply stp_cmp; apply s_gtr; exact rfl; exact rfl; all_goals (intro hc45; try (exfalso; (first | exact hc45 rfl | omega)))); all_goals (apply ol_nil))
            | (refine cw_region_id 15 ?_; (apply ol_mv; exact rfl; exact rfl); (apply ol_as; exact rfl; exact rfl); (apply ol_as; exact rfl; exact rfl); (apply ol_nil))
            | (apply cw_cond_true; exact rfl; (first | exact rfl | assumption))
            | (apply cw_cond_false; exact rfl; (first | exact rfl | assumption))
            | apply cw_skip
            | apply cw_ret
            | apply cw_block
            | apply cw_exit
          refine ends [⟨some bk25, flat (eK .u8) (bI j N) ++ [], 5⟩] (RVal.tmp rfl (RVal.tmp rfl RVal.nil)) (by (repeat (first | exact Pick.nil | (apply Pick.cons; (focus ((repeat (first | exact Spl.here | apply Spl.there)); done))) | exact Pick.refl))) ?_
          exact ⟨_, rfl, some bk25, none, j, [], by rw [bI_length]; rfl, rfl, ⟨by rw [flatK_length]; omega, by rw [flatK_length, bI_length, List.length_nil]; omega, by rw [bI_length]; exact Nat.le_refl _, fun h => by cases h⟩⟩
        · rw [if_pos hlt]
          have h0 : nd W (N / 256 ^ j) ≠ 0 := fun h => hlt (hz.1 h)
          repeat' first
            | apply cw_seq
            | (refine cw_region_id 8 ?_; (apply ol_mv; exact rfl; exact rfl); (apply ol_val; exact rfl; apply stp_cmp; apply s_geq; exact rfl; exact rfl; all_goals (intro hc29; try (exfalso; (first | exact hc29 rfl | omega)))); all_goals (apply ol_nil))
            | (refine cw_region_id 13 ?_; (apply ol_mv; exact rfl; exact rfl); (apply ol_val; exact rfl; apply stp_pur; apply s_len; exact rfl; exact el_23); (apply ol_val; exact rfl; apply stp_cmp; apply s_gtr; exact rfl; exact rfl; all_goals (intro hc45; try (exfalso; (first | exact hc45 rfl | omega)))); all_goals (apply ol_nil))
            | (refine cw_region_id 14 ?_; (apply ol_as; exact rfl; exact rfl); (apply ol_as; exact rfl; exact rfl); (apply ol_nil))
            | (apply cw_cond_true; exact rfl; (first | exact rfl | assumption))
            | (apply cw_cond_false; exact rfl; (first | exact rfl | assumption))
            | apply cw_skip
            | apply cw_ret
            | apply cw_block
            | apply cw_exit
          refine ends [⟨none, [], 5⟩] (RVal.tmp rfl (RVal.tmp rfl RVal.nil)) (by (repeat (first | exact Pick.nil | (apply Pick.cons; (focus ((repeat (first | exact Spl.here | apply Spl.there)); done))) | exact Pick.refl))) ?_
          exact ⟨_, rfl, RowRes.nil8⟩
end Go.Proofs.YtjaeblkgjbncmaaDoor

/-
  The reference's FromBytes.
-/
namespace Go.Proofs.YtjaeblkgjbncmaaDoor
set_option maxRecDepth 20000
set_option linter.unusedSimpArgs false
set_option linter.unusedVariables false
open Go Go.Fw
/-- What the reading of bytes says: the error and the number. -/
def fbP (l : List Int) : Nat × Nat := if 1000 < l.length then (5, 0) else if 64 < nd W (nb l) then (9, 0) else (0, nb l)
theorem nb_take_succ {l : List Int} {i : Nat} (h : i < l.length) : nb (l.take (i + 1)) = nb (l.take i) * 256 + (l[i]).toNat := by rw [List.take_succ_eq_append_getElem h, nb_snoc]
theorem nd_nb {m : Nat} {l : List Int} (h : ∀ x ∈ l, 0 ≤ x ∧ x ≤ 255) (hl : l.length ≤ m) : nd W (nb l) ≤ m := by
  refine nd_le (by decide) (Nat.lt_of_lt_of_le (nb_lt h) ?_)
  refine Nat.le_trans (Nat.pow_le_pow_left (by decide : 256 ≤ W) _) (Nat.pow_le_pow_right (by decide) hl)
end Go.Proofs.YtjaeblkgjbncmaaDoor
namespace Go.Proofs.YtjaeblkgjbncmaaDoor
set_option maxRecDepth 20000
set_option linter.unusedSimpArgs false
set_option linter.unusedVariables false
open Go Go.Fw
attribute [local irreducible] CW OL OD FX Stp FnC FnV Ret wI vd strOf bI bmid nb
set_option maxHeartbeats 800000
theorem rfrom_spec {M : View} {w : World} (hM : View.le M (View.of w)) {a : Option Addr} {b o c n : Nat} {l : List Int} (hn : l.length = n) (hl : ∀ x ∈ l, 0 ≤ x ∧ x ≤ 255) (s : SlA M (eK .u8) 1 a l b o) :
    FnC Tryd.prog 21 [.slice a n c] w (NRs (fbP l)) := by
  refine enterF (M := M) Tryd.func21 rfl rfl rfl rfl hM ?_
  refine cw_none 51 ?_
  refine cw_none 51 ?_
  unfold fbP
  by_cases h1 : 1000 < l.length
  · rw [if_pos h1]
    repeat' first
      | apply cw_seq
      | (refine cw_region_id 0 ?_; (apply ol_val; exact rfl; apply s_alloc; exact zb_25; (focus ((repeat constructor); done)); intro bk2); (apply ol_as; exact rfl; exact rfl); (apply ol_nil))
      | (refine cw_region_id 1 ?_; (apply ol_mv; exact rfl; exact rfl); (apply ol_val; exact rfl; apply stp_pur; apply s_len; exact rfl; exact el_33); (apply ol_val; exact rfl; apply stp_cmp; apply s_gtr; exact rfl; exact rfl; all_goals (intro hc8; try (exfalso; (first | exact hc8 rfl | omega)))); all_goals (apply ol_nil))
      | (refine cw_region_id 2 ?_; (apply ol_val; exact rfl; apply stp_pur; apply s_buildS; exact rfl; exact fs_25; exact zb_25; (focus ((repeat (first | exact rfl | constructor)); done))); (apply ol_eff; apply s_storeN; exact rfl; exact rfl; exact sz_25; exact rfl; exact rfl; (focus ((repeat constructor); done)); (focus ((repeat constructor); done))); (apply ol_as; exact rfl; exact rfl); (apply ol_nil))
      | (apply cw_cond_true; exact rfl; (first | exact rfl | assumption))
      | (apply cw_cond_false; exact rfl; (first | exact rfl | assumption))
      | apply cw_skip
      | apply cw_ret
      | apply cw_block
      | apply cw_exit
    refine ends [⟨none, [], 51⟩] (RVal.cellN rfl rfl rfl (RdN.own (by (repeat (first | exact Has.here | apply Has.there))) (GetN.cons rfl GetN.nil)) (RVal.tmp rfl RVal.nil)) (by (repeat (first | exact Pick.nil | (apply Pick.cons; (focus ((repeat (first | exact Spl.here | apply Spl.there)); done))) | exact Pick.refl))) ?_
    exact ⟨_, rfl, WR.zero⟩
  · rw [if_neg h1]
    repeat' first
      | apply cw_seq
      | (refine cw_region_id 0 ?_; (apply ol_val; exact rfl; apply s_alloc; exact zb_25; (focus ((repeat constructor); done)); intro bk2); (apply ol_as; exact rfl; exact rfl); (apply ol_nil))
      | (refine cw_region_id 1 ?_; (apply ol_mv; exact rfl; exact rfl); (apply ol_val; exact rfl; apply stp_pur; apply s_len; exact rfl; exact el_33); (apply ol_val; exact rfl; apply stp_cmp; apply s_gtr; exact rfl; exact rfl; all_goals (intro hc8; try (exfalso; (first | exact hc8 rfl | omega)))); all_goals (apply ol_nil))
      | (refine cw_region_id 3 ?_; (apply ol_as; exact rfl; exact rfl); (apply ol_nil))
      | (refine cw_region_id 4 ?_; (apply ol_as; exact rfl; exact rfl); (apply ol_nil))
      | (apply cw_cond_true; exact rfl; (first | exact rfl | assumption))
      | (apply cw_cond_false; exact rfl; (first | exact rfl | assumption))
      | apply cw_skip
      | apply cw_ret
      | apply cw_block
      | apply cw_exit
    refine cw_loopK (σ := RSA) [0, 2] (by (repeat (first | exact Keep.nil | (apply Keep.cons; exact rfl)))) (fun s => [(4, .slice (base s.r s.A) (nd W (nb (l.take s.i))) s.c), (5, .int .i64 s.i)]) (fun _ => M) (fun s => [⟨s.r, flat (eK .u32) (wI (nd W (nb (l.take s.i))) (nb (l.take s.i))) ++ s.sp, 51⟩, ⟨some bk2, [.slice none 0 0], 25⟩, ⟨none, [], 51⟩]) (fun s => s.i ≤ n ∧ SO s.r (nd W (nb (l.take s.i))) s.c (flat (eK .u32) (wI (nd W (nb (l.take s.i))) (nb (l.take s.i)))) s.sp 1) (fun s => n - s.i) ⟨0, none, none, 0, []⟩ (by dsimp only; rw [List.take_zero, nb_nil, nd_zero]; (repeat (first | exact trivial | refine And.intro rfl ?_))) (View.le.refl _) (by dsimp only; rw [List.take_zero, nb_nil, nd_zero, wI_zero]; (repeat (first | exact Pick.nil | (apply Pick.cons; (focus ((repeat (first | exact Spl.here | apply Spl.there)); done))) | exact Pick.refl))) ⟨Nat.zero_le _, by dsimp only; rw [List.take_zero, nb_nil, nd_zero, wI_zero]; exact SO.nil 1⟩ ?_
    rintro ⟨i, r, A, cp, sp⟩ ⟨hi, so⟩
    dsimp only at hi so
    dsimp only
    have hnk : nd W (nb (l.take i)) ≤ 1000 := nd_nb (fun x hx => hl x (List.mem_of_mem_take hx)) (by rw [List.length_take]; omega)
    by_cases hin : i < n
    · have hc := s.cells i (by omega)
      have hs := nb_take_succ (show i < l.length by omega)
      have hb := hl _ (List.getElem_mem (show i < l.length by omega))
      generalize l[i]'(by omega) = z at *
      obtain ⟨p, rfl⟩ := Int.eq_ofNat_of_zero_le hb.1
      rw [Int.toNat_natCast] at hs
      have kt : ∀ (w' : World), OB.ok ⟨r, flat (eK .u32) (wI (nd W (nb (l.take i))) (nb (l.take i))) ++ sp, 51⟩ w' → FnC Tryd.prog 36 [.slice (base r A) (nd W (nb (l.take i))) cp, .int .u64 256, .int .u64 (p : Nat)] w' (WR (nd W (nb (l.take (i + 1)))) (nb (l.take (i + 1)))) := fun w' ho => by
        have := rtimes_spec (View.le.refl _) (N := nb (l.take i)) (f := 256) (p := p) (c := cp) (by omega) (by omega) rfl (by omega) (SlA.ownW (A := A) ho so)
        rwa [← hs] at this
      unfold WR at kt
      repeat' first
        | apply cw_seq
        | (refine cw_region_id 5 ?_; (apply ol_mv; exact rfl; exact rfl); (apply ol_mv; exact rfl; exact rfl); (apply ol_val; exact rfl; apply stp_pur; apply s_len; exact rfl; exact el_33); (apply ol_val; exact rfl; apply stp_cmp; apply s_lss; exact rfl; exact rfl; all_goals (intro hc13; try (exfalso; (first | exact hc13 rfl | omega)))); all_goals (apply ol_nil))
        | (refine cw_region_id 7 ?_; (apply ol_mv; exact rfl; exact rfl); (apply ol_mv; exact rfl; exact rfl); (apply ol_mv; exact rfl; exact rfl); (apply ol_val; exact rfl; apply stp_pur; first | (apply s_indexK; exact rfl; exact rfl; exact el_33; exact sz_5; (first | exact rfl | exact s.at_ (by omega)); omega) | (apply s_indexO; exact rfl; exact rfl; exact el_33; exact sz_5; (first | exact rfl | exact s.at_ (by omega)); omega)); (apply ol_ld; exact rfl; exact rfl; exact rfl; (first | (apply RdN.own; (focus ((repeat constructor); done)); (first | exact GetN.cons rfl GetN.nil | (apply getN_ints_app; (first | omega | (simp; omega) | (simp; done))) | (apply getN_ints; (first | omega | (simp; omega) | (simp; done))))) | (apply RdN.view; exact hc))); (apply ol_val; exact rfl; apply stp_pur; first | (apply s_conv; exact rfl; exact rfl; exact ti_41; (focus (apply wrap_u64; omega))) | (apply s_conv; exact rfl; exact rfl; exact ti_41; exact rfl)); (apply ol_val; exact rfl; apply s_call; exact rfl; exact gf_36; (intro w' hw'; exact kt w' (hw'.ok_ (by (repeat (first | exact Has.here | apply Has.there))))); ((intro v new h; obtain ⟨r1, A1, cap1, sp1, rfl, rfl, so1⟩ := h))); (apply ol_as; exact rfl; exact rfl); (apply ol_nil))
        | (refine cw_region_id 6 ?_; (apply ol_mv; exact rfl; exact rfl); (apply ol_val; exact rfl; apply stp_pur; apply s_add64; exact rfl; exact rfl; omega); (apply ol_as; exact rfl; exact rfl); (apply ol_nil))
        | (refine cw_region_id 8 ?_; (apply ol_mv; exact rfl; exact rfl); (apply ol_val; exact rfl; apply stp_pur; apply s_len; exact rfl; exact el_23); (apply ol_val; exact rfl; apply stp_cmp; apply s_gtr; exact rfl; exact rfl; all_goals (intro hc25; try (exfalso; (first | exact hc25 rfl | omega)))); all_goals (apply ol_nil))
        | (refine cw_region_id 9 ?_; (apply ol_val; exact rfl; apply stp_pur; apply s_buildS; exact rfl; exact fs_25; exact zb_25; (focus ((repeat (first | exact rfl | constructor)); done))); (apply ol_eff; apply s_storeN; exact rfl; exact rfl; exact sz_25; exact rfl; exact rfl; (focus ((repeat constructor); done)); (focus ((repeat constructor); done))); (apply ol_as; exact rfl; exact rfl); (apply ol_nil))
        | (refine cw_region_id 10 ?_; (apply ol_mv; exact rfl; exact rfl); (apply ol_val; exact rfl; apply stp_pur; apply s_buildS; exact rfl; exact fs_25; exact zb_25; (focus ((repeat (first | exact rfl | constructor)); done))); (apply ol_eff; apply s_storeN; exact rfl; exact rfl; exact sz_25; exact rfl; exact rfl; (focus ((repeat constructor); done)); (focus ((repeat constructor); done))); (apply ol_as; exact rfl; exact rfl); (apply ol_nil))
        | (apply cw_cond_true; exact rfl; (first | exact rfl | assumption))
        | (apply cw_cond_false; exact rfl; (first | exact rfl | assumption))
        | apply cw_skip
        | apply cw_ret
        | apply cw_block
        | apply cw_exit
      exact ⟨⟨i + 1, r1, A1, cap1, sp1⟩, ⟨by (repeat (first | exact trivial | refine And.intro rfl ?_)), View.le.refl _, by (repeat (first | exact Pick.nil | (apply Pick.cons; (focus ((repeat (first | exact Spl.here | apply Spl.there)); done))) | exact Pick.refl)), ⟨hin, so1⟩, by dsimp only; omega⟩⟩
    · have hfin : nb (l.take i) = nb l := by rw [List.take_of_length_le (by omega)]
      rw [hfin] at so hnk ⊢
      by_cases hle : 64 < nd W (nb l)
      · rw [if_pos hle]
        repeat' first
          | apply cw_seq
          | (refine cw_region_id 5 ?_; (apply ol_mv; exact rfl; exact rfl); (apply ol_mv; exact rfl; exact rfl); (apply ol_val; exact rfl; apply stp_pur; apply s_len; exact rfl; exact el_33); (apply ol_val; exact rfl; apply stp_cmp; apply s_lss; exact rfl; exact rfl; all_goals (intro hc13; try (exfalso; (first | exact hc13 rfl | omega)))); all_goals (apply ol_nil))
          | (refine cw_region_id 8 ?_; (apply ol_mv; exact rfl; exact rfl); (apply ol_val; exact rfl; apply stp_pur; apply s_len; exact rfl; exact el_23); (apply ol_val; exact rfl; apply stp_cmp; apply s_gtr; exact rfl; exact rfl; all_goals (intro hc25; try (exfalso; (first | exact hc25 rfl | omega)))); all_goals (apply ol_nil))
          | (refine cw_region_id 9 ?_; (apply ol_val; exact rfl; apply stp_pur; apply s_buildS; exact rfl; exact fs_25; exact zb_25; (focus ((repeat (first | exact rfl | constructor)); done))); (apply ol_eff; apply s_storeN; exact rfl; exact rfl; exact sz_25; exact rfl; exact rfl; (focus ((repeat constructor); done)); (focus ((repeat constructor); done))); (apply ol_as; exact rfl; exact rfl); (apply ol_nil))
          | (apply cw_cond_true; exact rfl; (first | exact rfl | assumption))
          | (apply cw_cond_false; exact rfl; (first | exact rfl | assumption))
          | apply cw_skip
          | apply cw_ret
          | apply cw_block
          | apply cw_exit
        refine ends [⟨none, [], 51⟩] (RVal.cellN rfl rfl rfl (RdN.own (by (repeat (first | exact Has.here | apply Has.there))) (GetN.cons rfl GetN.nil)) (RVal.tmp rfl RVal.nil)) (by (repeat (first | exact Pick.nil | (apply Pick.cons; (focus ((repeat (first | exact Spl.here | apply Spl.there)); done))) | exact Pick.refl))) ?_
        exact ⟨_, rfl, WR.zero⟩
      · rw [if_neg hle]
        repeat' first
          | apply cw_seq
          | (refine cw_region_id 5 ?_; (apply ol_mv; exact rfl; exact rfl); (apply ol_mv; exact rfl; exact rfl); (apply ol_val; exact rfl; apply stp_pur; apply s_len; exact rfl; exact el_33); (apply ol_val; exact rfl; apply stp_cmp; apply s_lss; exact rfl; exact rfl; all_goals (intro hc13; try (exfalso; (first | exact hc13 rfl | omega)))); all_goals (apply ol_nil))
          | (refine cw_region_id 8 ?_; (apply ol_mv; exact rfl; exact rfl); (apply ol_val; exact rfl; apply stp_pur; apply s_len; exact rfl; exact el_23); (apply ol_val; exact rfl; apply stp_cmp; apply s_gtr; exact rfl; exact rfl; all_goals (intro hc25; try (exfalso; (first | exact hc25 rfl | omega)))); all_goals (apply ol_nil))
          | (refine cw_region_id 10 ?_; (apply ol_mv; exact rfl; exact rfl); (apply ol_val; exact rfl; apply stp_pur; apply s_buildS; exact rfl; exact fs_25; exact zb_25; (focus ((repeat (first | exact rfl | constructor)); done))); (apply ol_eff; apply s_storeN; exact rfl; exact rfl; exact sz_25; exact rfl; exact rfl; (focus ((repeat constructor); done)); (focus ((repeat constructor); done))); (apply ol_as; exact rfl; exact rfl); (apply ol_nil))
          | (apply cw_cond_true; exact rfl; (first | exact rfl | assumption))
          | (apply cw_cond_false; exact rfl; (first | exact rfl | assumption))
          | apply cw_skip
          | apply cw_ret
          | apply cw_block
          | apply cw_exit
        refine ends [⟨r, flat (eK .u32) (wI (nd W (nb l)) (nb l)) ++ sp, 51⟩] (RVal.cellN rfl rfl rfl (RdN.own (by (repeat (first | exact Has.here | apply Has.there))) (GetN.cons rfl GetN.nil)) (RVal.tmp rfl RVal.nil)) (by (repeat (first | exact Pick.nil | (apply Pick.cons; (focus ((repeat (first | exact Spl.here | apply Spl.there)); done))) | exact Pick.refl))) ?_
        exact ⟨_, rfl, r, A, cp, sp, rfl, rfl, so⟩
end Go.Proofs.YtjaeblkgjbncmaaDoor

/-
  Bytes put into words; leading zeros.
-/
namespace Go.Proofs.YtjaeblkgjbncmaaDoor
set_option maxRecDepth 20000
set_option linter.unusedSimpArgs false
set_option linter.unusedVariables false
open Go Go.Fw
theorem pow_split (i : Nat) : 256 ^ i = W ^ (i / 4) * 256 ^ (i % 4) := by rw [W_256, ← Nat.pow_mul, ← Nat.pow_add, Nat.div_add_mod]
/-- The word in which the byte lies. -/
theorem word_here {X c i : Nat} (hX : X < 256 ^ i) (hc : c < 256) : (X + 256 ^ i * c) / W ^ (i / 4) % W = X / W ^ (i / 4) + 256 ^ (i % 4) * c ∧ X / W ^ (i / 4) < 256 ^ (i % 4) ∧ 256 ^ (i % 4) * c < W := by
  have hp : 0 < W ^ (i / 4) := Nat.pow_pos W_pos
  have h1 : X / W ^ (i / 4) < 256 ^ (i % 4) := (Nat.div_lt_iff_lt_mul hp).2 (by rw [Nat.mul_comm, ← pow_split]; exact hX)
  have h2 : 256 ^ (i % 4) * (c + 1) ≤ W := by
    rw [W_256]
    have : 256 ^ (i % 4) * (c + 1) ≤ 256 ^ (i % 4) * 256 := Nat.mul_le_mul_left _ (by omega)
    refine Nat.le_trans this ?_
    rw [← Nat.pow_succ]
    exact Nat.pow_le_pow_right (by decide) (by omega)
  rw [Nat.mul_add, Nat.mul_one] at h2
  have h0 : 0 < 256 ^ (i % 4) := Nat.pow_pos (by decide)
  refine ⟨?_, h1, by omega⟩
  rw [pow_split i, Nat.mul_assoc, Nat.add_mul_div_left _ _ hp, Nat.mod_eq_of_lt (by omega)]
theorem word_other {X c i j : Nat} (hX : X < 256 ^ i) (hc : c < 256) (hj : j ≠ i / 4) : (X + 256 ^ i * c) / W ^ j % W = X / W ^ j % W := by
  have hp : 0 < W ^ j := Nat.pow_pos W_pos
  rcases Nat.lt_or_gt_of_ne hj with h | h
  · obtain ⟨m, hm⟩ : ∃ m, i / 4 = j + (m + 1) := ⟨i / 4 - j - 1, by omega⟩
    rw [pow_split i, hm, Nat.pow_add, Nat.pow_succ', Nat.mul_assoc, Nat.mul_assoc, Nat.mul_assoc, Nat.add_mul_div_left _ _ hp, Nat.add_mul_mod_self_left]
  · have h1 : 256 ^ (i + 1) ≤ W ^ j := by
      rw [W_256, ← Nat.pow_mul]
      exact Nat.pow_le_pow_right (by decide) (by omega)
    have h2 : 256 ^ i * (c + 1) ≤ 256 ^ i * 256 := Nat.mul_le_mul_left _ (by omega)
    rw [Nat.mul_add, Nat.mul_one, ← Nat.pow_succ] at h2
    rw [Nat.div_eq_of_lt (Nat.lt_of_lt_of_le (show X + 256 ^ i * c < 256 ^ (i + 1) by omega) h1), Nat.div_eq_of_lt (Nat.lt_of_lt_of_le (show X < 256 ^ (i + 1) by omega) h1)]
theorem wI_set {X c i k : Nat} (hX : X < 256 ^ i) (hc : c < 256) (hk : i / 4 < k) : (wI k X).set (i / 4) ((X / W ^ (i / 4) + 256 ^ (i % 4) * c : Nat) : Int) = wI k (X + 256 ^ i * c) := by
  refine List.ext_getElem (by rw [List.length_set, wI_length, wI_length]) fun j h1 h2 => ?_
  have h3 : j < (wI k X).length := by rw [List.length_set] at h1; exact h1
  rw [List.getElem_set, wI_get h2]
  split
  · rename_i e
    subst e
    rw [(word_here hX hc).1]
  · rename_i e
    rw [wI_get h3, word_other hX hc (fun h => e h.symm)]
theorem bits_or32 {x y : Nat} (hx : x < 2 ^ 32) (hy : y < 2 ^ 32) : Go.bits .or .u32 (x : Int) (y : Int) = ((x ||| y : Nat) : Int) := by
  have e : Go.bits .or .u32 (x : Int) (y : Int) = IntKind.u32.wrap (((BitVec.ofInt 32 (x : Int) ||| BitVec.ofInt 32 (y : Int)) : BitVec 32).toNat : Int) := rfl
  rw [e, BitVec.toNat_or, BitVec.ofInt_natCast, BitVec.ofInt_natCast, BitVec.toNat_ofNat, BitVec.toNat_ofNat, Nat.mod_eq_of_lt hx, Nat.mod_eq_of_lt hy]
  have := Nat.or_lt_two_pow hx hy
  rw [wrapU32]
  omega
theorem or_byte {x c r : Nat} (hx : x < 256 ^ r) (hxW : x < W) (h : 256 ^ r * c < W) : Go.bits .or .u32 ((x : Nat) : Int) ((256 ^ r * c : Nat) : Int) = ((x + 256 ^ r * c : Nat) : Int) := by
  have e : x ||| 256 ^ r * c = x + 256 ^ r * c := by
    rw [Nat.or_comm, Nat.mul_comm, ← pow8, or_add (by rw [pow8]; exact hx), Nat.add_comm]
  rw [bits_or32 (show x < 2 ^ 32 from hxW) (show 256 ^ r * c < 2 ^ 32 from h), e]
theorem shl_byte {c i : Nat} (h : 256 ^ (i % 4) * c < W) : IntKind.u32.wrap (((c : Nat) : Int) * 2 ^ (8 * (((i : Nat) : Int) % 4)).toNat) = ((256 ^ (i % 4) * c : Nat) : Int) := by
  have e : (8 * (((i : Nat) : Int) % 4)).toNat = 8 * (i % 4) := by omega
  have e2 : ((c : Nat) : Int) * 2 ^ (8 * (i % 4)) = ((256 ^ (i % 4) * c : Nat) : Int) := by
    rw [← pow8, Int.natCast_mul, Int.mul_comm]
    simp
  rw [e, e2]
  have h2 : 256 ^ (i % 4) * c < 4294967296 := h
  exact wrap_u32 (by omega)
/-- The last i bytes. -/
def nbt (l : List Int) (i : Nat) : Nat := nb l % 256 ^ i
theorem nbt_zero (l : List Int) : nbt l 0 = 0 := by unfold nbt; rw [Nat.pow_zero, Nat.mod_one]
theorem nbt_lt (l : List Int) (i : Nat) : nbt l i < 256 ^ i := Nat.mod_lt _ (Nat.pow_pos (by decide))
theorem nbt_all {l : List Int} (h : ∀ x ∈ l, 0 ≤ x ∧ x ≤ 255) : nbt l l.length = nb l := Nat.mod_eq_of_lt (nb_lt h)
theorem nbt_succ {l : List Int} (h : ∀ x ∈ l, 0 ≤ x ∧ x ≤ 255) {i : Nat} (hi : i < l.length) : nbt l (i + 1) = nbt l i + 256 ^ i * (l.getD (l.length - 1 - i) 0).toNat := by
  unfold nbt
  rw [Nat.mod_pow_succ]
  have := nb_get h hi
  congr 2
  omega
theorem nb_zero_cons (l : List Int) : nb (0 :: l) = nb l := by rw [nb_cons]; simp
/-- Bytes without leading zeros tell how many words there are. -/
theorem nb_big {z : Int} {r : List Int} (hz : 0 < z) (h : 256 < (z :: r).length) : 64 < nd W (nb (z :: r)) := by
  rw [nb_cons]
  refine Nat.not_le.1 fun hle => ?_
  have h1 := (nd_le_iff (b := W) (by decide)).1 hle
  have h2 : W ^ 64 ≤ 256 ^ r.length := by
    rw [W_256, ← Nat.pow_mul]
    exact Nat.pow_le_pow_right (by decide) (by simp at h; omega)
  have h3 : 256 ^ r.length ≤ 256 ^ r.length * z.toNat := Nat.le_mul_of_pos_right _ (by omega)
  omega
theorem nb_small {l : List Int} (hl : ∀ x ∈ l, 0 ≤ x ∧ x ≤ 255) (h : ¬ 256 < l.length) : ¬ 64 < nd W (nb l) := by
  have h1 : nd W (nb l) ≤ 64 := nd_le (by decide) (Nat.lt_of_lt_of_le (nb_lt hl) (by
    rw [W_256, ← Nat.pow_mul]
    exact Nat.pow_le_pow_right (by decide) (by omega)))
  omega
end Go.Proofs.YtjaeblkgjbncmaaDoor

/-
  natform.FromBytes.
-/
namespace Go.Proofs.YtjaeblkgjbncmaaDoor
set_option maxRecDepth 20000
set_option linter.unusedSimpArgs false
set_option linter.unusedVariables false
open Go Go.Fw
theorem wI_zeros (k : Nat) : wI k 0 = List.replicate k 0 := by
  induction k with
  | zero => exact wI_zero 0
  | succ k ih => rw [wI_succ, ih, List.replicate_succ']; simp
structure ZSt where
  j : Nat
  A : Option Addr
end Go.Proofs.YtjaeblkgjbncmaaDoor
namespace Go.Proofs.YtjaeblkgjbncmaaDoor
set_option maxRecDepth 20000
set_option linter.unusedSimpArgs false
set_option linter.unusedVariables false
open Go Go.Fw
attribute [local irreducible] CW OL OD FX Stp FnC FnV Ret wI vd strOf bI bmid nb nbt
set_option maxHeartbeats 800000
theorem from_spec {M : View} {w : World} (hM : View.le M (View.of w)) {a : Option Addr} {b o c n : Nat} {l : List Int} (hn : l.length = n) (hnc : n ≤ c) (hl : ∀ x ∈ l, 0 ≤ x ∧ x ≤ 255) (s : SlA M (eK .u8) 1 a l b o) :
    FnC Tryd.prog 18 [.slice a n c] w (NRs (fbP l)) := by
  refine enterF (M := M) Tryd.func18 rfl rfl rfl rfl hM ?_
  refine cw_none 51 ?_
  unfold fbP
  by_cases h1 : 1000 < l.length
  · rw [if_pos h1]
    repeat' first
      | apply cw_seq
      | (refine cw_region_id 0 ?_; (apply ol_val; exact rfl; apply s_alloc; exact zb_25; (focus ((repeat constructor); done)); intro bk2); (apply ol_as; exact rfl; exact rfl); (apply ol_nil))
      | (refine cw_region_id 1 ?_; (apply ol_mv; exact rfl; exact rfl); (apply ol_val; exact rfl; apply stp_pur; apply s_len; exact rfl; exact el_33); (apply ol_val; exact rfl; apply stp_cmp; apply s_gtr; exact rfl; exact rfl; all_goals (intro hc8; try (exfalso; (first | exact hc8 rfl | omega)))); all_goals (apply ol_nil))
      | (refine cw_region_id 2 ?_; (apply ol_val; exact rfl; apply stp_pur; apply s_buildS; exact rfl; exact fs_25; exact zb_25; (focus ((repeat (first | exact rfl | constructor)); done))); (apply ol_eff; apply s_storeN; exact rfl; exact rfl; exact sz_25; exact rfl; exact rfl; (focus ((repeat constructor); done)); (focus ((repeat constructor); done))); (apply ol_as; exact rfl; exact rfl); (apply ol_nil))
      | (apply cw_cond_true; exact rfl; (first | exact rfl | assumption))
      | (apply cw_cond_false; exact rfl; (first | exact rfl | assumption))
      | apply cw_skip
      | apply cw_ret
      | apply cw_block
      | apply cw_exit
    refine ends [⟨none, [], 51⟩] (RVal.cellN rfl rfl rfl (RdN.own (by (repeat (first | exact Has.here | apply Has.there))) (GetN.cons rfl GetN.nil)) (RVal.tmp rfl RVal.nil)) (by (repeat (first | exact Pick.nil | (apply Pick.cons; (focus ((repeat (first | exact Spl.here | apply Spl.there)); done))) | exact Pick.refl))) ?_
    exact ⟨_, rfl, WR.zero⟩
  · rw [if_neg h1]
    repeat' first
      | apply cw_seq
      | (refine cw_region_id 0 ?_; (apply ol_val; exact rfl; apply s_alloc; exact zb_25; (focus ((repeat constructor); done)); intro bk2); (apply ol_as; exact rfl; exact rfl); (apply ol_nil))
      | (refine cw_region_id 1 ?_; (apply ol_mv; exact rfl; exact rfl); (apply ol_val; exact rfl; apply stp_pur; apply s_len; exact rfl; exact el_33); (apply ol_val; exact rfl; apply stp_cmp; apply s_gtr; exact rfl; exact rfl; all_goals (intro hc8; try (exfalso; (first | exact hc8 rfl | omega)))); all_goals (apply ol_nil))
      | (apply cw_cond_true; exact rfl; (first | exact rfl | assumption))
      | (apply cw_cond_false; exact rfl; (first | exact rfl | assumption))
      | apply cw_skip
      | apply cw_ret
      | apply cw_block
      | apply cw_exit
    refine cw_loopK (σ := ZSt) [2] (by (repeat (first | exact Keep.nil | (apply Keep.cons; exact rfl)))) (fun s => [(0, .slice s.A (n - s.j) (c - s.j))]) (fun _ => M) (fun _ => [⟨some bk2, [.slice none 0 0], 25⟩, ⟨none, [], 51⟩]) (fun s => s.j ≤ n ∧ SlA M (eK .u8) 1 s.A (l.drop s.j) b (o + s.j) ∧ nb (l.drop s.j) = nb l) (fun s => n - s.j) ⟨0, a⟩ (by (repeat (first | exact trivial | refine And.intro rfl ?_))) (View.le.refl _) (by (repeat (first | exact Pick.nil | (apply Pick.cons; (focus ((repeat (first | exact Spl.here | apply Spl.there)); done))) | exact Pick.refl))) ⟨Nat.zero_le _, s, rfl⟩ ?_
    rintro ⟨j, A⟩ ⟨hj, sj, hnb⟩
    dsimp only at hj sj hnb
    dsimp only
    have hlj : ∀ x ∈ l.drop j, 0 ≤ x ∧ x ≤ 255 := fun x hx => hl x (List.mem_of_mem_drop hx)
    have hlen : (l.drop j).length = n - j := by rw [List.length_drop, hn]
    by_cases hz : j < n ∧ (l.drop j).getD 0 0 = 0
    · have hjl : j < l.length := by omega
      have hd := List.drop_eq_getElem_cons hjl
      have hc := sj.cells 0 (by omega)
      have h0 : (l.drop j)[0]'(by omega) = 0 := by
        have := hz.2
        rw [List.getD_eq_getElem?_getD, List.getElem?_eq_getElem (by omega)] at this
        exact this
      rw [h0] at hc
      have hlj0 : l[j] = 0 := by
        have := List.getElem_drop (xs := l) (i := j) (j := 0) (h := by omega)
        rw [h0] at this
        exact this.symm
      have hnb2 : nb (l.drop (j + 1)) = nb l := by
        rw [← hnb, hd, hlj0, nb_zero_cons]
      have hsub := SlA.sub sj (l := 1) (h := n - j) (m := c - j) (by omega) (by omega) (by omega)
      rw [List.take_of_length_le (by omega), List.drop_drop, show o + j + 1 * 1 = o + (j + 1) by omega] at hsub
      repeat' first
        | apply cw_seq
        | (refine cw_region_id 3 ?_; (apply ol_mv; exact rfl; exact rfl); (apply ol_val; exact rfl; apply stp_pur; apply s_len; exact rfl; exact el_33); (apply ol_val; exact rfl; apply stp_cmp; apply s_gtr; exact rfl; exact rfl; all_goals (intro hc12; try (exfalso; (first | exact hc12 rfl | omega)))); all_goals (apply ol_mv; exact rfl; exact rfl); all_goals (first | (apply ol_gskip; exact rfl; exact rfl; (first | exact rfl | assumption); exact rfl) | (apply ol_gval; exact rfl; exact rfl; exact rfl; (first | exact rfl | assumption); apply stp_pur; apply s_move; exact rfl)); all_goals (first | (apply ol_gskip; exact rfl; exact rfl; (first | exact rfl | assumption); exact rfl) | (apply ol_gval; exact rfl; exact rfl; exact rfl; (first | exact rfl | assumption); apply stp_pur; first | (apply s_indexK; exact rfl; exact rfl; exact el_33; exact sz_5; (first | exact rfl | exact sj.at_ (by omega)); omega) | (apply s_indexO; exact rfl; exact rfl; exact el_33; exact sz_5; (first | exact rfl | exact sj.at_ (by omega)); omega))); all_goals (first | (apply ol_gskip; exact rfl; exact rfl; (first | exact rfl | assumption); exact rfl) | (apply ol_gval; exact rfl; exact rfl; exact rfl; (first | exact rfl | assumption); apply stp_pur; apply s_load1; exact rfl; exact rfl; (first | (apply RdN.own; (focus ((repeat constructor); done)); (first | exact GetN.cons rfl GetN.nil | (apply getN_ints_app; (first | omega | (simp; omega) | (simp; done))) | (apply getN_ints; (first | omega | (simp; omega) | (simp; done))))) | (apply RdN.view; exact hc)))); all_goals (first | (apply ol_gskip; exact rfl; exact rfl; (first | exact rfl | assumption); exact rfl) | (apply ol_gval; exact rfl; exact rfl; exact rfl; (first | exact rfl | assumption); apply stp_cmp; apply s_eql; exact rfl; exact rfl; all_goals (intro hc17; try (exfalso; (first | exact hc17 rfl | omega))))); all_goals (apply ol_val; exact rfl; apply stp_pur; first | (apply s_pick_t; exact rfl; (first | exact rfl | assumption); exact rfl) | (apply s_pick_f; exact rfl; (first | exact rfl | assumption); exact rfl)); all_goals (apply ol_nil))
        | (refine cw_region_id 4 ?_; (apply ol_mv; exact rfl; exact rfl); (apply ol_val; exact rfl; apply stp_pur; apply s_slice; exact rfl; exact el_33; exact sz_5; exact (show bnd _ _ _ 1 from Exists.intro _ rfl); exact rfl; exact rfl; (intro h; first | exact rfl | cases h); (first | omega | (simp; omega) | (simp; done)); (first | omega | (simp; omega) | (simp; done)); (first | omega | (simp; omega) | (simp; done))); (apply ol_as; exact rfl; exact rfl); (apply ol_nil))
        | (apply cw_cond_true; exact rfl; (first | exact rfl | assumption))
        | (apply cw_cond_false; exact rfl; (first | exact rfl | assumption))
        | apply cw_skip
        | apply cw_ret
        | apply cw_block
        | apply cw_exit
      refine ⟨⟨j + 1, slicedA A 1 (c - j) 1⟩, ⟨?_, View.le.refl _, by (repeat (first | exact Pick.nil | (apply Pick.cons; (focus ((repeat (first | exact Spl.here | apply Spl.there)); done))) | exact Pick.refl)), ⟨hz.1, hsub, hnb2⟩, by dsimp only; omega⟩⟩
      dsimp only
      rw [show n - (j + 1) = n - j - 1 by omega, show c - (j + 1) = c - j - 1 by omega]
      (repeat (first | exact trivial | refine And.intro rfl ?_))
    · have hz' : n - j = 0 ∨ ∃ z, 0 < n - j ∧ GetN (M.cell b) (o + j + 0 * 1) 1 [.int .u8 z] ∧ 0 < z ∧ ∃ r, l.drop j = z :: r := by
        by_cases h0 : n - j = 0
        · exact .inl h0
        · right
          have hc := sj.cells 0 (by omega)
          have hb := hlj _ (List.getElem_mem (show 0 < (l.drop j).length by omega))
          have hg : (l.drop j).getD 0 0 = (l.drop j)[0]'(by omega) := by rw [List.getD_eq_getElem?_getD, List.getElem?_eq_getElem (by omega)]; rfl
          refine ⟨_, by omega, hc, ?_, (l.drop j).tail, ?_⟩
          rotate_left
          · rw [← List.drop_one]
            exact (List.drop_eq_getElem_cons (show 0 < (l.drop j).length by omega))
          have : (l.drop j).getD 0 0 ≠ 0 := fun h => hz ⟨by omega, h⟩
          omega
      obtain ⟨hm1, hm2⟩ : n - j ≤ 1000 ∧ n - j ≤ c - j := ⟨by omega, by omega⟩
      clear hz hnc h1
      rw [← hnb]
      clear hnb s hl
      generalize l.drop j = L at *
      generalize n - j = m at *
      generalize c - j = c' at *
      generalize o + j = o' at *
      by_cases hbig : 256 < m
      · rcases hz' with h0 | ⟨z, hpos, hc, hz, r, rfl⟩
        · omega
        · rw [if_pos (nb_big hz (by omega))]
          repeat' first
            | apply cw_seq
            | (refine cw_region_id 3 ?_; (apply ol_mv; exact rfl; exact rfl); (apply ol_val; exact rfl; apply stp_pur; apply s_len; exact rfl; exact el_33); (apply ol_val; exact rfl; apply stp_cmp; apply s_gtr; exact rfl; exact rfl; all_goals (intro hc12; try (exfalso; (first | exact hc12 rfl | omega)))); all_goals (apply ol_mv; exact rfl; exact rfl); all_goals (first | (apply ol_gskip; exact rfl; exact rfl; (first | exact rfl | assumption); exact rfl) | (apply ol_gval; exact rfl; exact rfl; exact rfl; (first | exact rfl | assumption); apply stp_pur; apply s_move; exact rfl)); all_goals (first | (apply ol_gskip; exact rfl; exact rfl; (first | exact rfl | assumption); exact rfl) | (apply ol_gval; exact rfl; exact rfl; exact rfl; (first | exact rfl | assumption); apply stp_pur; first | (apply s_indexK; exact rfl; exact rfl; exact el_33; exact sz_5; (first | exact rfl | exact sj.at_ (by omega)); omega) | (apply s_indexO; exact rfl; exact rfl; exact el_33; exact sz_5; (first | exact rfl | exact sj.at_ (by omega)); omega))); all_goals (first | (apply ol_gskip; exact rfl; exact rfl; (first | exact rfl | assumption); exact rfl) | (apply ol_gval; exact rfl; exact rfl; exact rfl; (first | exact rfl | assumption); apply stp_pur; apply s_load1; exact rfl; exact rfl; (first | (apply RdN.own; (focus ((repeat constructor); done)); (first | exact GetN.cons rfl GetN.nil | (apply getN_ints_app; (first | omega | (simp; omega) | (simp; done))) | (apply getN_ints; (first | omega | (simp; omega) | (simp; done))))) | (apply RdN.view; exact hc)))); all_goals (first | (apply ol_gskip; exact rfl; exact rfl; (first | exact rfl | assumption); exact rfl) | (apply ol_gval; exact rfl; exact rfl; exact rfl; (first | exact rfl | assumption); apply stp_cmp; apply s_eql; exact rfl; exact rfl; all_goals (intro hc17; try (exfalso; (first | exact hc17 rfl | omega))))); all_goals (apply ol_val; exact rfl; apply stp_pur; first | (apply s_pick_t; exact rfl; (first | exact rfl | assumption); exact rfl) | (apply s_pick_f; exact rfl; (first | exact rfl | assumption); exact rfl)); all_goals (apply ol_nil))
            | (refine cw_region_id 5 ?_; (apply ol_mv; exact rfl; exact rfl); (apply ol_val; exact rfl; apply stp_pur; apply s_len; exact rfl; exact el_33); (apply ol_val; exact rfl; apply stp_cmp; apply s_gtr; exact rfl; exact rfl; all_goals (intro hc23; try (exfalso; (first | exact hc23 rfl | omega)))); all_goals (apply ol_nil))
            | (refine cw_region_id 6 ?_; (apply ol_val; exact rfl; apply stp_pur; apply s_buildS; exact rfl; exact fs_25; exact zb_25; (focus ((repeat (first | exact rfl | constructor)); done))); (apply ol_eff; apply s_storeN; exact rfl; exact rfl; exact sz_25; exact rfl; exact rfl; (focus ((repeat constructor); done)); (focus ((repeat constructor); done))); (apply ol_as; exact rfl; exact rfl); (apply ol_nil))
            | (apply cw_cond_true; exact rfl; (first | exact rfl | assumption))
            | (apply cw_cond_false; exact rfl; (first | exact rfl | assumption))
            | apply cw_skip
            | apply cw_ret
            | apply cw_block
            | apply cw_exit
          refine ends [⟨none, [], 51⟩] (RVal.cellN rfl rfl rfl (RdN.own (by (repeat (first | exact Has.here | apply Has.there))) (GetN.cons rfl GetN.nil)) (RVal.tmp rfl RVal.nil)) (by (repeat (first | exact Pick.nil | (apply Pick.cons; (focus ((repeat (first | exact Spl.here | apply Spl.there)); done))) | exact Pick.refl))) ?_
          exact ⟨_, rfl, WR.zero⟩
      · have hns := nb_small hlj (by omega)
        rw [if_neg hns]
        obtain ⟨kk, hkk⟩ : ∃ kk, (m + 3) / 4 = kk := ⟨_, rfl⟩
        have heq : ((m : Int) + 3) / 4 = ((kk : Nat) : Int) := by omega
        rcases hz' with h0 | ⟨z, hpos, hc, hz, _⟩
        all_goals
          repeat' first
            | apply cw_seq
            | (refine cw_region_id 3 ?_; (apply ol_mv; exact rfl; exact rfl); (apply ol_val; exact rfl; apply stp_pur; apply s_len; exact rfl; exact el_33); (apply ol_val; exact rfl; apply stp_cmp; apply s_gtr; exact rfl; exact rfl; all_goals (intro hc12; try (exfalso; (first | exact hc12 rfl | omega)))); all_goals (apply ol_mv; exact rfl; exact rfl); all_goals (first | (apply ol_gskip; exact rfl; exact rfl; (first | exact rfl | assumption); exact rfl) | (apply ol_gval; exact rfl; exact rfl; exact rfl; (first | exact rfl | assumption); apply stp_pur; apply s_move; exact rfl)); all_goals (first | (apply ol_gskip; exact rfl; exact rfl; (first | exact rfl | assumption); exact rfl) | (apply ol_gval; exact rfl; exact rfl; exact rfl; (first | exact rfl | assumption); apply stp_pur; first | (apply s_indexK; exact rfl; exact rfl; exact el_33; exact sz_5; (first | exact rfl | exact sj.at_ (by omega)); omega) | (apply s_indexO; exact rfl; exact rfl; exact el_33; exact sz_5; (first | exact rfl | exact sj.at_ (by omega)); omega))); all_goals (first | (apply ol_gskip; exact rfl; exact rfl; (first | exact rfl | assumption); exact rfl) | (apply ol_gval; exact rfl; exact rfl; exact rfl; (first | exact rfl | assumption); apply stp_pur; apply s_load1; exact rfl; exact rfl; (first | (apply RdN.own; (focus ((repeat constructor); done)); (first | exact GetN.cons rfl GetN.nil | (apply getN_ints_app; (first | omega | (simp; omega) | (simp; done))) | (apply getN_ints; (first | omega | (simp; omega) | (simp; done))))) | (apply RdN.view; exact hc)))); all_goals (first | (apply ol_gskip; exact rfl; exact rfl; (first | exact rfl | assumption); exact rfl) | (apply ol_gval; exact rfl; exact rfl; exact rfl; (first | exact rfl | assumption); apply stp_cmp; apply s_eql; exact rfl; exact rfl; all_goals (intro hc17; try (exfalso; (first | exact hc17 rfl | omega))))); all_goals (apply ol_val; exact rfl; apply stp_pur; first | (apply s_pick_t; exact rfl; (first | exact rfl | assumption); exact rfl) | (apply s_pick_f; exact rfl; (first | exact rfl | assumption); exact rfl)); all_goals (apply ol_nil))
            | (refine cw_region_id 5 ?_; (apply ol_mv; exact rfl; exact rfl); (apply ol_val; exact rfl; apply stp_pur; apply s_len; exact rfl; exact el_33); (apply ol_val; exact rfl; apply stp_cmp; apply s_gtr; exact rfl; exact rfl; all_goals (intro hc23; try (exfalso; (first | exact hc23 rfl | omega)))); all_goals (apply ol_nil))
            | (refine cw_region_id 7 ?_; (apply ol_mv; exact rfl; exact rfl); (apply ol_val; exact rfl; apply stp_pur; apply s_len; exact rfl; exact el_33); (apply ol_val; exact rfl; apply stp_pur; apply s_add64; exact rfl; exact rfl; omega); (apply ol_val; exact rfl; apply stp_pur; first | (apply s_quo64; exact rfl; exact rfl; omega) | (apply s_quoT; exact rfl; exact rfl; omega)); (apply ol_val; exact rfl; apply s_makeB; exact congrArg (fun z => some (Value.int .i64 z)) heq; exact congrArg (fun z => some (Value.int .i64 z)) heq; exact el_23; exact sz_51; exact zb_51; exact rfl; exact by_51; omega; omega; omega; intro bk29); (apply ol_as; exact rfl; exact rfl); (apply ol_nil))
            | (refine cw_region_id 8 ?_; (apply ol_mv; exact rfl; exact rfl); (apply ol_val; exact rfl; apply stp_pur; apply s_len; exact rfl; exact el_33); (apply ol_mv; exact rfl; exact rfl); (apply ol_nil))
            | (apply cw_cond_true; exact rfl; (first | exact rfl | assumption))
            | (apply cw_cond_false; exact rfl; (first | exact rfl | assumption))
            | apply cw_skip
            | apply cw_ret
            | apply cw_block
            | apply cw_exit
          try clear hc
          refine cw_loopK (σ := Nat) [0, 2, 4, 31] (by (repeat (first | exact Keep.nil | (apply Keep.cons; exact rfl)))) (fun i => [(32, .int .i64 i)]) (fun _ => M) (fun i => [⟨some bk29, flat (eK .u32) (wI kk (nbt L i)) ++ [], 51⟩, ⟨some bk2, [.slice none 0 0], 25⟩, ⟨none, [], 51⟩]) (fun i => i ≤ m) (fun i => m - i) 0 (by (repeat (first | exact trivial | refine And.intro rfl ?_))) (View.le.refl _) (by rw [nbt_zero, wI_zeros, flat_zeros]; (repeat (first | exact Pick.nil | (apply Pick.cons; (focus ((repeat (first | exact Spl.here | apply Spl.there)); done))) | exact Pick.refl))) (Nat.zero_le _) ?_
          intro i hi
          by_cases him : i < m
          · have hci := sj.cells (m - 1 - i) (by omega)
            have hbi := hlj _ (List.getElem_mem (show m - 1 - i < L.length by omega))
            have hsu := nbt_succ hlj (show i < L.length by omega)
            have hX := nbt_lt L i
            rw [hlen, List.getD_eq_getElem?_getD, List.getElem?_eq_getElem (show m - 1 - i < L.length by omega), Option.getD_some] at hsu
            generalize L[m - 1 - i]'(by omega) = cb at *
            obtain ⟨cn, rfl⟩ := Int.eq_ofNat_of_zero_le hbi.1
            rw [Int.toNat_natCast] at hsu
            have hq : i / 4 < kk := by omega
            have hset := wI_set (X := nbt L i) (c := cn) hX (by omega) hq
            obtain ⟨_, hx1, hx2⟩ := word_here (X := nbt L i) (c := cn) hX (by omega)
            rw [← hsu] at hset
            have hxW : nbt L i / W ^ (i / 4) < W := by
              have : 256 ^ (i % 4) ≤ W := by rw [W_256]; exact Nat.pow_le_pow_right (by decide) (by omega)
              omega
            have hgl : i / 4 < (wI kk (nbt L i)).length := by rw [wI_length]; exact hq
            have hget := wI_get hgl
            rw [Nat.mod_eq_of_lt hxW] at hget
            have hlenB := wI_length kk (nbt L i)
            have hsh := shl_byte hx2
            have hor := or_byte hx1 hxW hx2
            generalize nbt L i / W ^ (i / 4) = x at *
            generalize 256 ^ (i % 4) * cn = y at *
            generalize hB : wI kk (nbt L i) = B at *
            have hidx : ((i : Int) / 4).toNat = i / 4 := by omega
            have hg2 : GetN ((flat (eK .u32) B ++ [])[·]?) (0 + ((i : Int) / 4).toNat * 1) 1 [.int .u32 ((x : Nat) : Int)] := by
              have := getNK (k := .u32) (sp := []) (show i / 4 < B.length by omega)
              rw [hidx]
              rwa [List.getD_eq_getElem?_getD, List.getElem?_eq_getElem (show i / 4 < B.length by omega), Option.getD_some, hget] at this
            have hs2 : SetAt (flat (eK .u32) B ++ []) (0 + ((i : Int) / 4).toNat * 1) (.int .u32 (((x + y : Nat)) : Int)) (flat (eK .u32) (wI kk (nbt L (i + 1))) ++ []) := by
              rw [hidx]
              have := setAtK (k := .u32) (sp := []) (v := ((x + y : Nat) : Int)) (show i / 4 < B.length by omega)
              rwa [hset] at this
            have hci2 : GetN (M.cell b) (o' + ((m : Int) - 1 - (i : Int)).toNat * 1) 1 [.int .u8 ((cn : Nat) : Int)] := by
              rw [show ((m : Int) - 1 - (i : Int)).toNat = m - 1 - i by omega]
              exact hci
            repeat' first
              | apply cw_seq
              | (refine cw_region_id 9 ?_; (apply ol_val; exact rfl; apply stp_cmp; apply s_lss; exact rfl; exact rfl; all_goals (intro hc33; try (exfalso; (first | exact hc33 rfl | omega)))); all_goals (apply ol_nil))
              | (refine cw_region_id 10 ?_; (apply ol_mv; exact rfl; exact rfl); (apply ol_as; exact rfl; exact rfl); (apply ol_nil))
              | (refine cw_draw (id := 11) 20 (.mv 0 (.mv 1 (.mv 2 (.mv 3 (.mv 4 (.mv 5 (.mv 6 (.mv 7 (.mv 8 (.mv 9 (.mv 10 (.mv 11 (.mv 12 (.mv 13 (.mv 14 (.mv 15 (.mv 16 (.mv 17 (.mv 18 (.mv 19 (PT.nil))))))))))))))))))))) mixed (by kernel_rfl) ?_; (apply od_mv; exact rfl; exact rfl; apply s_move; exact rfl); (apply od_mv; exact rfl; exact rfl; apply s_move; exact rfl); (apply od_mv; exact rfl; exact rfl; first | (apply s_quo64; exact rfl; exact rfl; omega) | (apply s_quoT; exact rfl; exact rfl; omega)); (apply od_mv; exact rfl; exact rfl; first | (apply s_indexK; exact rfl; exact rfl; exact el_23; exact sz_51; (first | exact rfl | (first | exact sj.at_ (by omega) | exact rfl)); omega) | (apply s_indexO; exact rfl; exact rfl; exact el_23; exact sz_51; (first | exact rfl | (first | exact sj.at_ (by omega) | exact rfl)); omega)); (apply od_mv; exact rfl; exact rfl; apply s_load1; exact rfl; exact rfl; (first | (apply RdN.own; (focus ((repeat constructor); done)); (first | exact GetN.cons rfl GetN.nil | exact hg2)) | (apply RdN.view; exact hci2))); (apply od_mv; exact rfl; exact rfl; apply s_move; exact rfl); (apply od_mv; exact rfl; exact rfl; apply s_move; exact rfl); (apply od_mv; exact rfl; exact rfl; apply s_len; exact rfl; exact el_33); (apply od_mv; exact rfl; exact rfl; apply s_sub64; exact rfl; exact rfl; omega); (apply od_mv; exact rfl; exact rfl; apply s_move; exact rfl); (apply od_mv; exact rfl; exact rfl; apply s_sub64; exact rfl; exact rfl; omega); (apply od_mv; exact rfl; exact rfl; first | (apply s_indexK; exact rfl; exact rfl; exact el_33; exact sz_5; (first | exact rfl | (first | exact sj.at_ (by omega) | exact rfl)); omega) | (apply s_indexO; exact rfl; exact rfl; exact el_33; exact sz_5; (first | exact rfl | (first | exact sj.at_ (by omega) | exact rfl)); omega)); (apply od_mv; exact rfl; exact rfl; apply s_load1; exact rfl; exact rfl; (first | (apply RdN.own; (focus ((repeat constructor); done)); (first | exact GetN.cons rfl GetN.nil | exact hg2)) | (apply RdN.view; exact hci2))); (apply od_mv; exact rfl; exact rfl; first | (apply s_conv; exact rfl; exact rfl; exact ti_51; (focus (apply wrap_u32; omega))) | (apply s_conv; exact rfl; exact rfl; exact ti_51; exact rfl)); (apply od_mv; exact rfl; exact rfl; apply s_move; exact rfl); (apply od_mv; exact rfl; exact rfl; first | (apply s_rem64; exact rfl; exact rfl; omega) | (apply s_remT; exact rfl; exact rfl; omega)); (apply od_mv; exact rfl; exact rfl; apply s_mul64; exact rfl; exact rfl; omega); (apply od_mv; exact rfl; exact rfl; apply s_shlF; exact rfl; exact rfl; (first | decide | omega | (simp [IntKind.bits]; omega) | (simp [IntKind.bits]; done)); exact hsh); (apply od_mv; exact rfl; exact rfl; apply s_orE; exact rfl; exact rfl; exact hor); (apply od_mv; exact rfl; exact rfl; first | (apply s_indexK; exact rfl; exact rfl; exact el_23; exact sz_51; (first | exact rfl | (first | exact sj.at_ (by omega) | exact rfl)); omega) | (apply s_indexO; exact rfl; exact rfl; exact el_23; exact sz_51; (first | exact rfl | (first | exact sj.at_ (by omega) | exact rfl)); omega)); (apply od_nil; (first | exact Wk.refl _ _ | (focus (apply Wk.mk; (first | exact View.le.refl _ | assumption | exact View.le.trans (by assumption) (by assumption)); (repeat constructor); done)))); (apply ol_eff; apply s_store1; exact rfl; exact rfl; exact sz_51; exact rfl; (focus ((repeat constructor); done)); (first | (focus ((repeat constructor); done)) | (apply setAt_ints_app; (first | omega | (simp; omega) | (simp; done))) | (apply setAt_ints; (first | omega | (simp; omega) | (simp; done))) | exact hs2 | (apply SetAt.set; (first | omega | (simp; omega) | (simp; done))))); (apply ol_nil))
              | (refine cw_region_id 12 ?_; (apply ol_val; exact rfl; apply stp_pur; apply s_add64; exact rfl; exact rfl; omega); (apply ol_mv; exact rfl; exact rfl); (apply ol_nil))
              | (refine cw_region_id 13 ?_; (apply ol_mv; exact rfl; exact rfl))
              | (apply cw_cond_true; exact rfl; (first | exact rfl | assumption))
              | (apply cw_cond_false; exact rfl; (first | exact rfl | assumption))
              | apply cw_skip
              | apply cw_ret
              | apply cw_block
              | apply cw_exit
            all_goals exact ⟨i + 1, ⟨by (repeat (first | exact trivial | refine And.intro rfl ?_)), View.le.refl _, by (repeat (first | exact Pick.nil | (apply Pick.cons; (focus ((repeat (first | exact Spl.here | apply Spl.there)); done))) | exact Pick.refl)), him, by omega⟩⟩
          · obtain rfl : i = m := by omega
            have hall : nbt L i = nb L := by rw [← hlen]; exact nbt_all hlj
            rw [hall]
            have hlt : nb L < W ^ kk := by
              refine Nat.lt_of_lt_of_le (nb_lt hlj) ?_
              rw [W_256, ← Nat.pow_mul]
              exact Nat.pow_le_pow_right (by decide) (by omega)
            have hnd : nd W (nb L) ≤ kk := nd_le (by decide) hlt
            generalize nb L = X at *
            have so : SO (some bk29) kk kk (flat (eK .u32) (wI kk X)) [] 1 := ⟨by rw [flatK_length, wI_length]; omega, by rw [flatK_length, wI_length, List.length_nil]; omega, Nat.le_refl _, fun h => by cases h⟩
            have kt : ∀ (w' : World), OB.ok ⟨some bk29, flat (eK .u32) (wI kk X) ++ [], 51⟩ w' → FnC Tryd.prog 27 [.slice (some ⟨bk29, 0, none⟩) kk kk] w' (fun v _ => v = .agg [.slice (if nd W X = 0 then none else (some ⟨bk29, 0, none⟩)) (nd W X) (if nd W X = 0 then 0 else kk)].toArray) := fun w' ho =>
              trimmed_spec (View.le.refl _) hlt (by omega) (Nat.le_refl _) (SlA.ownW (A := none) ho so)
            obtain ⟨so2, e2⟩ := SO.cutW so hnd
            repeat' first
              | apply cw_seq
              | (refine cw_region_id 9 ?_; (apply ol_val; exact rfl; apply stp_cmp; apply s_lss; exact rfl; exact rfl; all_goals (intro hc33; try (exfalso; (first | exact hc33 rfl | omega)))); all_goals (apply ol_nil))
              | (refine cw_region_id 13 ?_; (apply ol_mv; exact rfl; exact rfl); (apply ol_val; exact rfl; apply s_callv; exact rfl; exact gf_27; (intro w' hw'; exact kt w' (hw'.ok_ (by (repeat (first | exact Has.here | apply Has.there)))))); (apply ol_eff; apply s_storeN; exact rfl; exact rfl; exact sz_25; exact rfl; exact rfl; (focus ((repeat constructor); done)); (focus ((repeat constructor); done))); (apply ol_as; exact rfl; exact rfl); (apply ol_nil))
              | (apply cw_cond_true; exact rfl; (first | exact rfl | assumption))
              | (apply cw_cond_false; exact rfl; (first | exact rfl | assumption))
              | apply cw_skip
              | apply cw_ret
              | apply cw_block
              | apply cw_exit
            by_cases h0 : nd W X = 0
            · have hz : X = 0 := (nd_zero_iff (by decide)).1 h0
              refine ends [⟨none, [], 51⟩] (RVal.cellN rfl rfl rfl (RdN.own (by (repeat (first | exact Has.here | apply Has.there))) (GetN.cons rfl GetN.nil)) (RVal.tmp rfl RVal.nil)) (by (repeat (first | exact Pick.nil | (apply Pick.cons; (focus ((repeat (first | exact Spl.here | apply Spl.there)); done))) | exact Pick.refl))) ?_
              rw [h0, if_pos rfl, if_pos rfl, hz]
              refine ⟨_, rfl, ?_⟩
              have := WR.zero
              rw [nd_zero] at this
              dsimp only
              rw [nd_zero]
              exact this
            · refine ends [⟨some bk29, flat (eK .u32) (wI kk X) ++ [], 51⟩] (RVal.cellN rfl rfl rfl (RdN.own (by (repeat (first | exact Has.here | apply Has.there))) (GetN.cons rfl GetN.nil)) (RVal.tmp rfl RVal.nil)) (by (repeat (first | exact Pick.nil | (apply Pick.cons; (focus ((repeat (first | exact Spl.here | apply Spl.there)); done))) | exact Pick.refl))) ?_
              rw [if_neg h0, if_neg h0]
              exact ⟨_, rfl, some bk29, none, kk, _, rfl, by rw [e2], so2⟩
end Go.Proofs.YtjaeblkgjbncmaaDoor

/-
  Numbers in hexadecimal.
-/
namespace Go.Proofs.YtjaeblkgjbncmaaDoor
set_option maxRecDepth 20000
set_option linter.unusedSimpArgs false
set_option linter.unusedVariables false
open Go Go.Fw
/-- What the library's tables hold, as far as it is read. -/
structure LT (M : View) : Prop where
  z : GetN (M.cell 3) (0 + 15 * 1) 1 [.int .u8 4]
  t : ∀ w, View.le M (View.of w) → Lib.TabIs Tryd.prog w "internal/strconv.uint64pow10" .u64 Lib.pow10Tab
theorem LT.mono {M N : View} (h : LT M) (hM : View.le M N) : LT N := ⟨h.z.mono fun _ _ e => hM.cell e, fun w hw => h.t w (View.le.trans hM hw)⟩
theorem pow2_16 : Go.bits .and .i64 16 (16 - 1) = 0 := by decide
theorem tz_and : Go.bits .and .u64 16 (IntKind.u64.wrap (0 - 16)) = 16 := by decide
theorem tz_mul : (16 : Int) * 285870213051353865 = 4573923408821661840 := by decide
theorem tz_shr : (4573923408821661840 : Int) / 2 ^ (58 : Int).toNat = ((15 : Nat) : Int) := by decide
end Go.Proofs.YtjaeblkgjbncmaaDoor
namespace Go.Proofs.YtjaeblkgjbncmaaDoor
set_option maxRecDepth 20000
set_option linter.unusedSimpArgs false
set_option linter.unusedVariables false
open Go Go.Fw
attribute [local irreducible] CW OL OD FX Stp FnC FnV Ret wI vd strOf bI bmid nb nbt
set_option maxHeartbeats 800000
theorem pow2_spec (w : World) : FnC Tryd.prog 61 [.int .i64 16] w (fun v _ => v = .bool true) := by
  refine enterF (M := View.of w) Tryd.func61 rfl rfl rfl rfl (View.le.refl _) ?_
  have h := pow2_16
  repeat' first
    | apply cw_seq
    | (refine cw_region_id 0 ?_; (apply ol_as; exact rfl; exact rfl); (apply ol_nil))
    | (refine cw_region_id 1 ?_; (apply ol_mv; exact rfl; exact rfl); (apply ol_mv; exact rfl; exact rfl); (apply ol_val; exact rfl; apply stp_pur; apply s_sub64; exact rfl; exact rfl; omega); (apply ol_val; exact rfl; apply stp_pur; apply s_andE; exact rfl; exact rfl; exact h); (apply ol_val; exact rfl; apply stp_cmp; apply s_eql; exact rfl; exact rfl; all_goals (intro hc7; try (exfalso; (first | exact hc7 rfl | omega)))); all_goals (apply ol_as; exact rfl; exact rfl); all_goals (apply ol_nil))
    | (apply cw_cond_true; exact rfl; (first | exact rfl | assumption))
    | (apply cw_cond_false; exact rfl; (first | exact rfl | assumption))
    | apply cw_skip
    | apply cw_ret
    | apply cw_block
    | apply cw_exit
  refine ends [] (RVal.tmp rfl RVal.nil) Pick.nil ?_
  rfl
theorem tz64_spec {M : View} {w : World} (hM : View.le M (View.of w)) (hL : LT M) : FnC Tryd.prog 65 [.int .u64 16] w (fun v _ => v = .int .i64 4) := by
  refine enterF (M := M) Tryd.func65 rfl rfl rfl rfl hM ?_
  have hz := hL.z
  repeat' first
    | apply cw_seq
    | (refine cw_region_id 0 ?_; (apply ol_as; exact rfl; exact rfl); (apply ol_nil))
    | (refine cw_region_id 1 ?_; (apply ol_mv; exact rfl; exact rfl); (apply ol_val; exact rfl; apply stp_cmp; apply s_eql; exact rfl; exact rfl; all_goals (intro hc4; try (exfalso; (first | exact hc4 rfl | omega)))); all_goals (apply ol_nil))
    | (refine cw_region_id 2 ?_; (apply ol_as; exact rfl; exact rfl); (apply ol_nil))
    | (refine cw_region_id 3 ?_; (apply ol_mv; exact rfl; exact rfl); (apply ol_mv; exact rfl; exact rfl); (apply ol_val; exact rfl; apply stp_pur; apply s_negW; exact rfl); (apply ol_val; exact rfl; apply stp_pur; apply s_andE; exact rfl; exact rfl; exact tz_and); (apply ol_val; exact rfl; apply stp_pur; apply s_mulE; exact rfl; exact rfl; exact tz_mul; (dsimp only [lowK, highK]; omega)); (apply ol_val; exact rfl; apply stp_pur; apply s_shrE; exact rfl; exact rfl; (first | decide | omega | (simp [IntKind.bits]; omega) | (simp [IntKind.bits]; done)); exact tz_shr); (apply ol_val; exact rfl; apply stp_pur; first | (apply s_indexAK; exact rfl; exact rfl; exact ar_102; exact sz_5; omega) | (apply s_indexAO; exact rfl; exact rfl; exact ar_102; exact sz_5; omega)); (apply ol_ld; exact rfl; exact rfl; exact rfl; (first | (apply RdN.own; (focus ((repeat constructor); done)); (first | exact GetN.cons rfl GetN.nil | (apply getN_ints_app; (first | omega | (simp; omega) | (simp; done))) | (apply getN_ints; (first | omega | (simp; omega) | (simp; done))))) | (apply RdN.view; exact hz))); (apply ol_val; exact rfl; apply stp_pur; first | (apply s_conv; exact rfl; exact rfl; exact ti_3; (focus (apply wrap_i64; omega))) | (apply s_conv; exact rfl; exact rfl; exact ti_3; exact rfl)); (apply ol_as; exact rfl; exact rfl); (apply ol_nil))
    | (apply cw_cond_true; exact rfl; (first | exact rfl | assumption))
    | (apply cw_cond_false; exact rfl; (first | exact rfl | assumption))
    | apply cw_skip
    | apply cw_ret
    | apply cw_block
    | apply cw_exit
  refine ends [] (RVal.tmp rfl RVal.nil) Pick.nil ?_
  rfl
theorem tz_spec {M : View} {w : World} (hM : View.le M (View.of w)) (hL : LT M) : FnC Tryd.prog 62 [.int .u64 16] w (fun v _ => v = .int .i64 4) := by
  refine enterF (M := M) Tryd.func62 rfl rfl rfl rfl hM ?_
  have k := fun (w' : World) (h : View.le M (View.of w')) => tz64_spec h hL
  repeat' first
    | apply cw_seq
    | (refine cw_region_id 0 ?_; (apply ol_as; exact rfl; exact rfl); (apply ol_nil))
    | (refine cw_region_id 1 ?_; (apply ol_mv; exact rfl; exact rfl); (apply ol_val; exact rfl; apply stp_pur; first | (apply s_conv; exact rfl; exact rfl; exact ti_51; (focus (apply wrap_u32; omega))) | (apply s_conv; exact rfl; exact rfl; exact ti_51; exact rfl)))
    | (refine cw_region_id 2 ?_; (apply ol_mv; exact rfl; exact rfl); (apply ol_val; exact rfl; apply s_callv; exact rfl; exact gf_65; (intro w' hw'; exact k w' hw'.le)); (apply ol_as; exact rfl; exact rfl); (apply ol_nil))
    | (apply cw_cond_true; exact rfl; (first | exact rfl | assumption))
    | (apply cw_cond_false; exact rfl; (first | exact rfl | assumption))
    | apply cw_skip
    | apply cw_ret
    | apply cw_block
    | apply cw_exit
  refine ends [] (RVal.tmp rfl RVal.nil) Pick.nil ?_
  rfl
end Go.Proofs.YtjaeblkgjbncmaaDoor

/-
  formatBits, at base 16.
-/
namespace Go.Proofs.YtjaeblkgjbncmaaDoor
set_option maxRecDepth 20000
set_option linter.unusedSimpArgs false
set_option linter.unusedVariables false
open Go Go.Fw
/-- The row in the middle: so many digits at the end. -/
def hrow (j u : Nat) : List Int := List.replicate (65 - j) 0 ++ (lw 16 j u).reverse.map chr
theorem hrow_length {j u : Nat} (h : j ≤ 65) : (hrow j u).length = 65 := by unfold hrow; rw [List.length_append, List.length_replicate, List.length_map, List.length_reverse, lw_length]; omega
theorem hrow_zero (u : Nat) : hrow 0 u = List.replicate 65 0 := by unfold hrow; simp [lw_zero]
theorem hdig_succ (j u : Nat) : (lw 16 (j + 1) u).reverse.map chr = chr (u / 16 ^ j % 16) :: (lw 16 j u).reverse.map chr := by rw [lw_succ]; simp
theorem hrow_set {j u : Nat} (h : j < 65) : (hrow j u).set (64 - j) (chr (u / 16 ^ j % 16)) = hrow (j + 1) u := by
  unfold hrow
  rw [hdig_succ, show 65 - j = 64 - j + 1 by omega, show 65 - (j + 1) = 64 - j by omega, List.replicate_succ', List.append_assoc, List.set_append_right _ _ (by rw [List.length_replicate]; exact Nat.le_refl _), List.length_replicate, Nat.sub_self]
  rfl
theorem txt16 {j u : Nat} (h1 : u / 16 ^ j < 16) (h2 : j = 0 ∨ 16 ≤ u / 16 ^ (j - 1)) : txt 16 u = (lw 16 (j + 1) u).reverse.map chr := by
  unfold txt
  split
  · rename_i h
    subst h
    rcases h2 with rfl | h2
    · rfl
    · simp at h2
  · rename_i h
    have : nd 16 u = j + 1 := by
      refine nd_eq (by decide) ?_ fun _ => ?_
      · rw [Nat.pow_succ]
        have := (Nat.div_lt_iff_lt_mul (Nat.pow_pos (by decide : 0 < 16))).1 h1
        rwa [Nat.mul_comm] at this
      · simp only [Nat.add_sub_cancel]
        rw [Nat.mod_eq_of_lt h1]
        rcases h2 with rfl | h2
        · rw [Nat.pow_zero, Nat.div_one]; exact h
        · obtain ⟨m, hm⟩ : ∃ m, j = m + 1 := by
            cases j with
            | zero => simp at h1 h2; omega
            | succ m => exact ⟨m, rfl⟩
          subst hm
          simp only [Nat.add_sub_cancel] at h2
          rw [Nat.pow_succ, ← Nat.div_div_eq_div_mul]
          omega
    unfold dg
    rw [this]
theorem hx_bound {j u : Nat} (hu : u < 18446744073709551616) (h2 : j = 0 ∨ 16 ≤ u / 16 ^ (j - 1)) : j ≤ 16 := by
  rcases h2 with rfl | h2
  · omega
  · refine Nat.not_lt.1 fun h => ?_
    have h3 : (16 : Nat) ^ 16 ≤ 16 ^ (j - 1) := Nat.pow_le_pow_right (by decide) (by omega)
    have h4 : u / 16 ^ (j - 1) ≤ u / 16 ^ 16 := Nat.div_le_div_left h3 (Nat.pow_pos (by decide))
    have h5 : u / 16 ^ 16 = 0 := Nat.div_eq_of_lt (by have : (16 : Nat) ^ 16 = 18446744073709551616 := rfl; omega)
    omega
theorem hdig : ∀ d, d < 16 → (((⟨#[48, 49, 50, 51, 52, 53, 54, 55, 56, 57, 97, 98, 99, 100, 101, 102, 103, 104, 105, 106, 107, 108, 109, 110, 111, 112, 113, 114, 115, 116, 117, 118, 119, 120, 121, 122]⟩ : ByteArray).data.toList.getD d 0).toNat : Int) = chr d := by decide
theorem and15u {u : Nat} (hu : u < 18446744073709551616) : Go.bits .and .u64 ((u : Nat) : Int) (16 - 1) = ((u % 16 : Nat) : Int) := by
  have := and_mask64 (x := (u : Int)) (n := 4) (by omega) (by decide)
  rw [show (16 : Int) - 1 = 2 ^ 4 - 1 by decide, this]
  omega
theorem shr4 (u j : Nat) : ((u / 16 ^ j : Nat) : Int) / 2 ^ (4 : Int).toNat = ((u / 16 ^ (j + 1) : Nat) : Int) := by
  rw [Nat.pow_succ, ← Nat.div_div_eq_div_mul]
  exact (Int.natCast_ediv (u / 16 ^ j) 16).symm
theorem getN_tail {k : IntKind} {P X : List Int} {off n : Nat} (h1 : P.length = off) (h2 : X.length = n) : GetN ((flat (eK k) (P ++ X))[·]?) off n (flat (eK k) X) := by
  subst h1 h2
  refine getN_list ?_ ?_
  · rw [flat_append, List.drop_left' (flatK_length), List.take_of_length_le (by rw [flatK_length]; exact Nat.le_refl _)]
  · rw [flatK_length, List.length_append]; exact Nat.le_refl _
theorem hrow_tail {j u : Nat} (h : j < 65) : GetN ((flat (eK .u8) (hrow (j + 1) u))[·]?) (0 + (64 - j) * 1) (65 - (64 - j)) (flat (eK .u8) ((lw 16 (j + 1) u).reverse.map chr)) := by
  unfold hrow
  exact getN_tail (by rw [List.length_replicate]; omega) (by rw [List.length_map, List.length_reverse, lw_length]; omega)
end Go.Proofs.YtjaeblkgjbncmaaDoor
namespace Go.Proofs.YtjaeblkgjbncmaaDoor
set_option maxRecDepth 20000
set_option linter.unusedSimpArgs false
set_option linter.unusedVariables false
open Go Go.Fw
attribute [local irreducible] CW OL OD FX Stp FnC FnV Ret wI vd strOf hrow chr
set_option maxHeartbeats 800000
theorem fbits_spec {M : View} {w : World} (hM : View.le M (View.of w)) (hL : LT M) {u : Nat} (hu : u < 18446744073709551616) :
    FnC Tryd.prog 52 [.slice none 0 0, .int .u64 u, .int .i64 16, .bool false, .bool false] w (fun v _ => v = .tuple #[.slice none 0 0, .string (strOf (txt 16 u))]) := by
  refine enterF (M := M) Tryd.func52 rfl rfl rfl rfl hM ?_
  have kt := fun (w' : World) (h : View.le M (View.of w')) => tz_spec h hL
  repeat' first
    | apply cw_seq
    | (refine cw_region_id 0 ?_; (apply ol_as; exact rfl; exact rfl); (apply ol_as; exact rfl; exact rfl); (apply ol_nil))
    | (refine cw_region_id 1 ?_; (apply ol_mv; exact rfl; exact rfl); (apply ol_val; exact rfl; apply stp_cmp; apply s_lss; exact rfl; exact rfl; all_goals (intro hc20; try (exfalso; (first | exact hc20 rfl | omega)))); all_goals (apply ol_mv; exact rfl; exact rfl); all_goals (first | (apply ol_gskip; exact rfl; exact rfl; (first | exact rfl | assumption); exact rfl) | (apply ol_gval; exact rfl; exact rfl; exact rfl; (first | exact rfl | assumption); apply stp_pur; apply s_move; exact rfl)); all_goals (first | (apply ol_gskip; exact rfl; exact rfl; (first | exact rfl | assumption); exact rfl) | (apply ol_gval; exact rfl; exact rfl; exact rfl; (first | exact rfl | assumption); apply stp_cmp; apply s_eql; exact rfl; exact rfl; all_goals (intro hc23; try (exfalso; (first | exact hc23 rfl | omega))))); all_goals (apply ol_val; exact rfl; apply stp_pur; first | (apply s_pick_t; exact rfl; (first | exact rfl | assumption); exact rfl) | (apply s_pick_f; exact rfl; (first | exact rfl | assumption); exact rfl)); all_goals (apply ol_mv; exact rfl; exact rfl); all_goals (first | (apply ol_gskip; exact rfl; exact rfl; (first | exact rfl | assumption); exact rfl) | (apply ol_gval; exact rfl; exact rfl; exact rfl; (first | exact rfl | assumption); apply stp_pur; apply s_move; exact rfl)); all_goals (first | (apply ol_gskip; exact rfl; exact rfl; (first | exact rfl | assumption); exact rfl) | (apply ol_gval; exact rfl; exact rfl; exact rfl; (first | exact rfl | assumption); apply stp_cmp; apply s_gtr; exact rfl; exact rfl; all_goals (intro hc27; try (exfalso; (first | exact hc27 rfl | omega))))); all_goals (apply ol_val; exact rfl; apply stp_pur; first | (apply s_pick_t; exact rfl; (first | exact rfl | assumption); exact rfl) | (apply s_pick_f; exact rfl; (first | exact rfl | assumption); exact rfl)); all_goals (apply ol_nil))
    | (refine cw_region_id 3 ?_; (apply ol_val; exact rfl; apply s_allocK; exact zk_97; intro bk12); (apply ol_nil))
    | (refine cw_region_id 4 ?_; (apply ol_as; exact rfl; exact rfl); (apply ol_nil))
    | (refine cw_region_id 5 ?_; (apply ol_mv; exact rfl; exact rfl); (apply ol_nil))
    | (refine cw_region_id 7 ?_; (apply ol_mv; exact rfl; exact rfl); (apply ol_val; exact rfl; apply s_callv; exact rfl; exact gf_61; (intro w' hw'; exact pow2_spec w')); (apply ol_nil))
    | (refine cw_region_id 8 ?_; (apply ol_mv; exact rfl; exact rfl); (apply ol_val; exact rfl; apply stp_pur; first | (apply s_conv; exact rfl; exact rfl; exact ti_38; (focus (apply wrap_u64; omega))) | (apply s_conv; exact rfl; exact rfl; exact ti_38; exact rfl)); (apply ol_val; exact rfl; apply s_callv; exact rfl; exact gf_62; (intro w' hw'; exact kt w' hw'.le)); (apply ol_val; exact rfl; apply stp_pur; first | (apply s_conv; exact rfl; exact rfl; exact ti_38; (focus (apply wrap_u64; omega))) | (apply s_conv; exact rfl; exact rfl; exact ti_38; exact rfl)); (apply ol_as; exact rfl; exact rfl); (apply ol_nil))
    | (refine cw_region_id 9 ?_; (apply ol_mv; exact rfl; exact rfl); (apply ol_val; exact rfl; apply stp_pur; first | (apply s_conv; exact rfl; exact rfl; exact ti_41; (focus (apply wrap_u64; omega))) | (apply s_conv; exact rfl; exact rfl; exact ti_41; exact rfl)); (apply ol_as; exact rfl; exact rfl); (apply ol_nil))
    | (refine cw_region_id 10 ?_; (apply ol_mv; exact rfl; exact rfl); (apply ol_val; exact rfl; apply stp_pur; first | (apply s_conv; exact rfl; exact rfl; exact ti_38; (focus (apply wrap_u64; omega))) | (apply s_conv; exact rfl; exact rfl; exact ti_38; exact rfl)); (apply ol_val; exact rfl; apply stp_pur; first | (apply s_subF; exact rfl; exact rfl; (first | (dsimp only [lowK, highK]; omega))) | (apply s_subW; exact rfl; exact rfl)); (apply ol_as; exact rfl; exact rfl); (apply ol_nil))
    | (apply cw_cond_true; exact rfl; (first | exact rfl | assumption))
    | (apply cw_cond_false; exact rfl; (first | exact rfl | assumption))
    | apply cw_skip
    | apply cw_ret
    | apply cw_block
    | apply cw_exit
  refine cw_loopK (σ := Nat) [0, 3, 4, 10, 11, 12, 14, 15, 16] (by (repeat (first | exact Keep.nil | (apply Keep.cons; exact rfl)))) (fun j => [(1, .int .u64 (u / 16 ^ j : Nat)), (13, .int .i64 (65 - (j : Int)))]) (fun _ => M) (fun j => [⟨some bk12, flat (eK .u8) (hrow j u), 97⟩]) (fun j => j = 0 ∨ 16 ≤ u / 16 ^ (j - 1)) (fun j => u / 16 ^ j) 0 (by rw [Nat.pow_zero, Nat.div_one]; (repeat (first | exact trivial | refine And.intro rfl ?_))) (View.le.refl _) (by rw [hrow_zero]; (repeat (first | exact Pick.nil | (apply Pick.cons; (focus ((repeat (first | exact Spl.here | apply Spl.there)); done))) | exact Pick.refl))) (.inl rfl) ?_
  intro j hj
  have hj16 := hx_bound hu hj
  have hlen := hrow_length (u := u) (show j ≤ 65 by omega)
  have hset := hrow_set (u := u) (show j < 65 by omega)
  have hd := hdig (u / 16 ^ j % 16) (Nat.mod_lt _ (by decide))
  have hul : u / 16 ^ j ≤ u := Nat.div_le_self _ _
  have hidx : ((65 : Int) - (j : Int) - 1).toNat = 64 - j := by omega
  generalize hB : hrow j u = B at *
  have hs2 : SetAt (flat (eK .u8) B) (0 + ((65 : Int) - (j : Int) - 1).toNat * 1) (.int .u8 (chr (u / 16 ^ j % 16))) (flat (eK .u8) (hrow (j + 1) u)) := by
    rw [hidx]
    have := setAtK0 (k := .u8) (v := chr (u / 16 ^ j % 16)) (show 64 - j < B.length by omega)
    rwa [hset] at this
  by_cases h16 : 16 ≤ u / 16 ^ j
  · have hand := and15u (u := u / 16 ^ j) (by omega)
    have hshr := shr4 u j
    have hst : (65 : Int) - (j : Int) - 1 = 65 - ((j + 1 : Nat) : Int) := by omega
    have hdec : u / 16 ^ (j + 1) < u / 16 ^ j := by rw [Nat.pow_succ, ← Nat.div_div_eq_div_mul]; omega
    have hm16 : u / 16 ^ j % 16 < 16 := Nat.mod_lt _ (by decide)
    generalize hm : u / 16 ^ j % 16 = dd at *
    repeat' first
      | apply cw_seq
      | (refine cw_region_id 11 ?_; (apply ol_mv; exact rfl; exact rfl); (apply ol_mv; exact rfl; exact rfl); (apply ol_val; exact rfl; apply stp_cmp; apply s_geq; exact rfl; exact rfl; all_goals (intro hc46; try (exfalso; (first | exact hc46 rfl | omega)))); all_goals (apply ol_nil))
      | (refine cw_region_id 12 ?_; (apply ol_mv; exact rfl; exact rfl); (apply ol_val; exact rfl; apply stp_pur; apply s_sub64; exact rfl; exact rfl; omega); (apply ol_as; exact rfl; exact rfl); (apply ol_nil))
      | (refine cw_region_id 13 ?_; (apply ol_mv; exact rfl; exact rfl); (apply ol_mv; exact rfl; exact rfl); (apply ol_mv; exact rfl; exact rfl); (apply ol_val; exact rfl; apply stp_pur; apply s_andE; exact rfl; exact rfl; exact hand); (apply ol_val; exact rfl; apply stp_pur; apply s_indexS; exact rfl; exact rfl; exact us_9; exact (show 0 ≤ ((dd : Nat) : Int) ∧ ((dd : Nat) : Int) < 36 by omega); exact hd); (apply ol_val; exact rfl; apply stp_pur; first | (apply s_indexAK; exact rfl; exact rfl; exact ar_97; exact sz_5; omega) | (apply s_indexAO; exact rfl; exact rfl; exact ar_97; exact sz_5; omega)); (apply ol_eff; apply s_store1; exact rfl; exact rfl; exact sz_5; exact rfl; (focus ((repeat constructor); done)); (first | (focus ((repeat constructor); done)) | (apply setAt_ints_app; (first | omega | (simp; omega) | (simp; done))) | (apply setAt_ints; (first | omega | (simp; omega) | (simp; done))) | exact hs2 | (apply SetAt.set; (first | omega | (simp; omega) | (simp; done))))); (apply ol_nil))
      | (refine cw_region_id 14 ?_; (apply ol_mv; exact rfl; exact rfl); (apply ol_mv; exact rfl; exact rfl); (apply ol_val; exact rfl; apply stp_pur; apply s_shrE; exact rfl; exact rfl; (first | decide | omega | (simp [IntKind.bits]; omega) | (simp [IntKind.bits]; done)); exact hshr); (apply ol_as; exact rfl; exact rfl); (apply ol_nil))
      | (apply cw_cond_true; exact rfl; (first | exact rfl | assumption))
      | (apply cw_cond_false; exact rfl; (first | exact rfl | assumption))
      | apply cw_skip
      | apply cw_ret
      | apply cw_block
      | apply cw_exit
    refine ⟨j + 1, ⟨?_, View.le.refl _, by (repeat (first | exact Pick.nil | (apply Pick.cons; (focus ((repeat (first | exact Spl.here | apply Spl.there)); done))) | exact Pick.refl)), .inr h16, hdec⟩⟩
    rw [← hst]
    (repeat (first | exact trivial | refine And.intro rfl ?_))
  · have hlt : u / 16 ^ j < 16 := by omega
    rw [txt16 hlt hj]
    rw [Nat.mod_eq_of_lt hlt] at hd hs2
    have htl := hrow_tail (j := j) (u := u) (by omega)
    have hDl : ((lw 16 (j + 1) u).reverse.map chr).length = 65 - (64 - j) := by rw [List.length_map, List.length_reverse, lw_length]; omega
    have hAd : 0 < 65 - (64 - j) → some (slicedP bk12 0 (64 - j) 65 1) = some (⟨bk12, 0 + (64 - j) * 1, none⟩ : Addr) := fun _ => by unfold slicedP; rw [if_neg (by omega)]
    generalize (lw 16 (j + 1) u).reverse.map chr = D at *
    generalize u / 16 ^ j = q at *
    repeat' first
      | apply cw_seq
      | (refine cw_region_id 11 ?_; (apply ol_mv; exact rfl; exact rfl); (apply ol_mv; exact rfl; exact rfl); (apply ol_val; exact rfl; apply stp_cmp; apply s_geq; exact rfl; exact rfl; all_goals (intro hc46; try (exfalso; (first | exact hc46 rfl | omega)))); all_goals (apply ol_nil))
      | (refine cw_region_id 15 ?_; (apply ol_mv; exact rfl; exact rfl); (apply ol_val; exact rfl; apply stp_pur; apply s_sub64; exact rfl; exact rfl; omega); (apply ol_as; exact rfl; exact rfl); (apply ol_nil))
      | (refine cw_region_id 16 ?_; (apply ol_mv; exact rfl; exact rfl); (apply ol_mv; exact rfl; exact rfl); (apply ol_val; exact rfl; apply stp_pur; apply s_indexS; exact rfl; exact rfl; exact us_9; exact (show 0 ≤ ((q : Nat) : Int) ∧ ((q : Nat) : Int) < 36 by omega); exact hd); (apply ol_val; exact rfl; apply stp_pur; first | (apply s_indexAK; exact rfl; exact rfl; exact ar_97; exact sz_5; omega) | (apply s_indexAO; exact rfl; exact rfl; exact ar_97; exact sz_5; omega)); (apply ol_eff; apply s_store1; exact rfl; exact rfl; exact sz_5; exact rfl; (focus ((repeat constructor); done)); (first | (focus ((repeat constructor); done)) | (apply setAt_ints_app; (first | omega | (simp; omega) | (simp; done))) | (apply setAt_ints; (first | omega | (simp; omega) | (simp; done))) | exact hs2 | (apply SetAt.set; (first | omega | (simp; omega) | (simp; done))))); (apply ol_nil))
      | (refine cw_region_id 25 ?_; (apply ol_mv; exact rfl; exact rfl); (apply ol_nil))
      | (refine cw_region_id 28 ?_; (apply ol_mv; exact rfl; exact rfl); (apply ol_nil))
      | (refine cw_region_id 30 ?_; (apply ol_mv; exact rfl; exact rfl); (apply ol_val; exact rfl; apply stp_pur; apply s_sliceP; exact rfl; exact ar_97; exact sz_5; (first | exact ⟨.i64, congrArg (fun z => some (Value.int .i64 z)) (show (65 : Int) - (j : Int) - 1 = ((64 - j : Nat) : Int) by omega)⟩ | exact Exists.intro _ rfl); exact rfl; exact rfl; (intro h; first | exact rfl | cases h); (first | omega | (simp; omega) | (simp; done)); (first | omega | (simp; omega) | (simp; done)); (first | omega | (simp; omega) | (simp; done))); (apply ol_val; exact rfl; apply stp_pur; apply s_convBS; exact rfl; exact el_33; exact tdInt_eq ti_5; exact us_9; exact hAd; exact hDl; (apply RdN.own; (repeat (first | exact Has.here | apply Has.there)); exact htl)); (apply ol_as; exact rfl; exact rfl); (apply ol_nil))
      | (apply cw_cond_true; exact rfl; (first | exact rfl | assumption))
      | (apply cw_cond_false; exact rfl; (first | exact rfl | assumption))
      | apply cw_skip
      | apply cw_ret
      | apply cw_block
      | apply cw_exit
    refine ends [] (RVal.tmp rfl (RVal.tmp rfl RVal.nil)) Pick.nil ?_
    rfl
theorem iFmt_spec {M : View} {w : World} (hM : View.le M (View.of w)) (hL : LT M) {u : Nat} (hu : u < 18446744073709551616) :
    FnC Tryd.prog 41 [.int .u64 u, .int .i64 16] w (fun v _ => v = .string (strOf (txt 16 u))) := by
  refine enterF (M := M) Tryd.func41 rfl rfl rfl rfl hM ?_
  have kt := fun (w' : World) (h : View.le M (View.of w')) => fbits_spec h hL hu
  repeat' first
    | apply cw_seq
    | (refine cw_region_id 0 ?_; (apply ol_as; exact rfl; exact rfl); (apply ol_nil))
    | (refine cw_region_id 1 ?_; (apply ol_mv; exact rfl; exact rfl); (apply ol_val; exact rfl; apply stp_cmp; apply s_eql; exact rfl; exact rfl; all_goals (intro hc10; try (exfalso; (first | exact hc10 rfl | omega)))); all_goals (apply ol_nil))
    | (refine cw_region_id 8 ?_; (apply ol_mv; exact rfl; exact rfl); (apply ol_mv; exact rfl; exact rfl); (apply ol_val; exact rfl; apply s_callv; exact rfl; exact gf_52; (intro w' hw'; exact kt w' hw'.le)); (apply ol_mv; exact rfl; exact rfl); (apply ol_ex; exact rfl; exact rfl; exact rfl); (apply ol_ex; exact rfl; exact rfl; exact rfl); (apply ol_as; exact rfl; exact rfl); (apply ol_as; exact rfl; exact rfl); (apply ol_nil))
    | (refine cw_region_id 9 ?_; (apply ol_mv; exact rfl; exact rfl); (apply ol_as; exact rfl; exact rfl); (apply ol_nil))
    | (apply cw_cond_true; exact rfl; (first | exact rfl | assumption))
    | (apply cw_cond_false; exact rfl; (first | exact rfl | assumption))
    | apply cw_skip
    | apply cw_ret
    | apply cw_block
    | apply cw_exit
  refine ends [] (RVal.tmp rfl RVal.nil) Pick.nil ?_
  rfl
theorem fmt16_spec {M : View} {w : World} (hM : View.le M (View.of w)) (hL : LT M) {u : Nat} (hu : u < 18446744073709551616) :
    FnC Tryd.prog 28 [.int .u64 u, .int .i64 16] w (fun v _ => v = .string (strOf (txt 16 u))) := by
  refine enterF (M := M) Tryd.func28 rfl rfl rfl rfl hM ?_
  have kt := fun (w' : World) (h : View.le M (View.of w')) => iFmt_spec h hL hu
  repeat' first
    | apply cw_seq
    | (refine cw_region_id 0 ?_; (apply ol_as; exact rfl; exact rfl); (apply ol_nil))
    | (refine cw_region_id 1 ?_; (apply ol_mv; exact rfl; exact rfl); (apply ol_mv; exact rfl; exact rfl); (apply ol_val; exact rfl; apply s_callv; exact rfl; exact gf_41; (intro w' hw'; exact kt w' hw'.le)); (apply ol_as; exact rfl; exact rfl); (apply ol_nil))
    | (apply cw_cond_true; exact rfl; (first | exact rfl | assumption))
    | (apply cw_cond_false; exact rfl; (first | exact rfl | assumption))
    | apply cw_skip
    | apply cw_ret
    | apply cw_block
    | apply cw_exit
  refine ends [] (RVal.tmp rfl RVal.nil) Pick.nil ?_
  rfl
end Go.Proofs.YtjaeblkgjbncmaaDoor
