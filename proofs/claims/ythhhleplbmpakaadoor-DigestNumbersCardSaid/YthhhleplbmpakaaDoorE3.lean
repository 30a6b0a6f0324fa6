/-
  The walks of streams.
-/
import Derived.Test.YthhhleplbmpakaaDoorE2
namespace Go.Proofs.YthhhleplbmpakaaDoor
set_option maxRecDepth 20000
set_option linter.unusedSimpArgs false
set_option linter.unusedVariables false
open Go Go.Fw
theorem slicedA_all {r : Option Nat} {A : Option Addr} {m sz : Nat} : slicedA (base r A) 0 m sz = base r A := by
  unfold slicedA
  split
  · rfl
  · cases h : base r A with
    | none => rfl
    | some a => simp [Addr.add]
theorem strm_split (h : List Int) (k n : Nat) (sp : List Value) : flat (eK .u8) (strm h k) ++ sp = flat (eK .u8) ((strm h k).take n) ++ (flat (eK .u8) ((strm h k).drop n) ++ sp) := by
  rw [← List.append_assoc, ← flat_append, List.take_append_drop]
end Go.Proofs.YthhhleplbmpakaaDoor
namespace Go.Proofs.YthhhleplbmpakaaDoor
set_option maxRecDepth 20000
set_option linter.unusedSimpArgs false
set_option linter.unusedVariables false
open Go Go.Fw
attribute [local irreducible] CW OL OD FX Stp FnC Ret sha strOf be8 strm stm
set_option maxHeartbeats 800000

theorem expand_err (w : World) (h : List Int) {n : Int} (hn : ¬ (0 ≤ n ∧ n ≤ 16384)) :
    FnC Tryd.prog 17 [.agg (flat (eK .u8) h).toArray, .int .i64 n] w (fun v _ => v = .tuple #[.slice none 0 0, .int .i64 2]) := by
  refine enterF (M := View.of w) Tryd.func17 rfl rfl rfl rfl (View.le.refl _) ?_
  by_cases h1 : n < 0
  ·
    repeat' first
      | apply cw_seq
      | (refine cw_region_id 0 ?_; (apply ol_val; exact rfl; first | (apply s_boxN; exact rfl; intro bk2) | (apply s_box1; exact rfl; exact rfl; intro bk2)); (apply ol_as; exact rfl; exact rfl); (apply ol_as; exact rfl; exact rfl); (apply ol_nil))
      | (refine cw_region_id 1 ?_; (apply ol_mv; exact rfl; exact rfl); (apply ol_val; exact rfl; apply stp_cmp; apply s_lss; exact rfl; exact rfl; all_goals (intro hc10; try (exfalso; (first | exact hc10 rfl | omega)))); all_goals (apply ol_mv; exact rfl; exact rfl); all_goals (first | (apply ol_gskip; exact rfl; exact rfl; (first | exact rfl | assumption); exact rfl) | (apply ol_gval; exact rfl; exact rfl; exact rfl; (first | exact rfl | assumption); apply stp_pur; apply s_move; exact rfl)); all_goals (first | (apply ol_gskip; exact rfl; exact rfl; (first | exact rfl | assumption); exact rfl) | (apply ol_gval; exact rfl; exact rfl; exact rfl; (first | exact rfl | assumption); apply stp_cmp; apply s_gtr; exact rfl; exact rfl; all_goals (intro hc13; try (exfalso; (first | exact hc13 rfl | omega))))); all_goals (apply ol_val; exact rfl; apply stp_pur; first | (apply s_pick_t; exact rfl; (first | exact rfl | assumption); exact rfl) | (apply s_pick_f; exact rfl; (first | exact rfl | assumption); exact rfl)); all_goals (apply ol_nil))
      | (refine cw_region_id 2 ?_; (apply ol_as; exact rfl; exact rfl); (apply ol_as; exact rfl; exact rfl); (apply ol_nil))
      | (refine cw_region_id 3 ?_; (apply ol_as; exact rfl; exact rfl); (apply ol_nil))
      | (refine cw_region_id 4 ?_; (apply ol_as; exact rfl; exact rfl); (apply ol_nil))
      | (apply cw_cond_true; exact rfl; (first | exact rfl | assumption))
      | (apply cw_cond_false; exact rfl; (first | exact rfl | assumption))
      | apply cw_skip
      | apply cw_ret
      | apply cw_block
      | apply cw_exit
    refine ends [] (RVal.tmp rfl (RVal.tmp rfl RVal.nil)) Pick.nil ?_
    rfl
  ·
    repeat' first
      | apply cw_seq
      | (refine cw_region_id 0 ?_; (apply ol_val; exact rfl; first | (apply s_boxN; exact rfl; intro bk2) | (apply s_box1; exact rfl; exact rfl; intro bk2)); (apply ol_as; exact rfl; exact rfl); (apply ol_as; exact rfl; exact rfl); (apply ol_nil))
      | (refine cw_region_id 1 ?_; (apply ol_mv; exact rfl; exact rfl); (apply ol_val; exact rfl; apply stp_cmp; apply s_lss; exact rfl; exact rfl; all_goals (intro hc10; try (exfalso; (first | exact hc10 rfl | omega)))); all_goals (apply ol_mv; exact rfl; exact rfl); all_goals (first | (apply ol_gskip; exact rfl; exact rfl; (first | exact rfl | assumption); exact rfl) | (apply ol_gval; exact rfl; exact rfl; exact rfl; (first | exact rfl | assumption); apply stp_pur; apply s_move; exact rfl)); all_goals (first | (apply ol_gskip; exact rfl; exact rfl; (first | exact rfl | assumption); exact rfl) | (apply ol_gval; exact rfl; exact rfl; exact rfl; (first | exact rfl | assumption); apply stp_cmp; apply s_gtr; exact rfl; exact rfl; all_goals (intro hc13; try (exfalso; (first | exact hc13 rfl | omega))))); all_goals (apply ol_val; exact rfl; apply stp_pur; first | (apply s_pick_t; exact rfl; (first | exact rfl | assumption); exact rfl) | (apply s_pick_f; exact rfl; (first | exact rfl | assumption); exact rfl)); all_goals (apply ol_nil))
      | (refine cw_region_id 2 ?_; (apply ol_as; exact rfl; exact rfl); (apply ol_as; exact rfl; exact rfl); (apply ol_nil))
      | (refine cw_region_id 3 ?_; (apply ol_as; exact rfl; exact rfl); (apply ol_nil))
      | (refine cw_region_id 4 ?_; (apply ol_as; exact rfl; exact rfl); (apply ol_nil))
      | (apply cw_cond_true; exact rfl; (first | exact rfl | assumption))
      | (apply cw_cond_false; exact rfl; (first | exact rfl | assumption))
      | apply cw_skip
      | apply cw_ret
      | apply cw_block
      | apply cw_exit
    refine ends [] (RVal.tmp rfl (RVal.tmp rfl RVal.nil)) Pick.nil ?_
    rfl

structure ESt where
  k : Nat
  r : Option Nat
  A : Option Addr
  c : Nat
  sp : List Value

theorem expand_spec {M : View} {w : World} (hM : View.le M (View.of w)) (hL : Laid M) {h : List Int} (hl : h.length = 32) (hb : isB h) {n : Nat} (hn : n ≤ 16384) :
    FnC Tryd.prog 17 [.agg (flat (eK .u8) h).toArray, .int .i64 n] w (fun v new => ∃ r A cap sp, v = .tuple #[.slice (base r A) n cap, .int .i64 0] ∧ new = [⟨r, flat (eK .u8) (stm h n) ++ sp, 5⟩] ∧ (r = none → stm h n = []) ∧ n ≤ cap) := by
  refine enterF (M := M) Tryd.func17 rfl rfl rfl rfl hM ?_
  refine cw_none 5 ?_
  repeat' first
    | apply cw_seq
    | (refine cw_region_id 0 ?_; (apply ol_val; exact rfl; first | (apply s_boxN; exact rfl; intro bk2) | (apply s_box1; exact rfl; exact rfl; intro bk2)); (apply ol_as; exact rfl; exact rfl); (apply ol_as; exact rfl; exact rfl); (apply ol_nil))
    | (refine cw_region_id 1 ?_; (apply ol_mv; exact rfl; exact rfl); (apply ol_val; exact rfl; apply stp_cmp; apply s_lss; exact rfl; exact rfl; all_goals (intro hc10; try (exfalso; (first | exact hc10 rfl | omega)))); all_goals (apply ol_mv; exact rfl; exact rfl); all_goals (first | (apply ol_gskip; exact rfl; exact rfl; (first | exact rfl | assumption); exact rfl) | (apply ol_gval; exact rfl; exact rfl; exact rfl; (first | exact rfl | assumption); apply stp_pur; apply s_move; exact rfl)); all_goals (first | (apply ol_gskip; exact rfl; exact rfl; (first | exact rfl | assumption); exact rfl) | (apply ol_gval; exact rfl; exact rfl; exact rfl; (first | exact rfl | assumption); apply stp_cmp; apply s_gtr; exact rfl; exact rfl; all_goals (intro hc13; try (exfalso; (first | exact hc13 rfl | omega))))); all_goals (apply ol_val; exact rfl; apply stp_pur; first | (apply s_pick_t; exact rfl; (first | exact rfl | assumption); exact rfl) | (apply s_pick_f; exact rfl; (first | exact rfl | assumption); exact rfl)); all_goals (apply ol_nil))
    | (refine cw_region_id 2 ?_; (apply ol_as; exact rfl; exact rfl); (apply ol_as; exact rfl; exact rfl); (apply ol_nil))
    | (refine cw_region_id 3 ?_; (apply ol_as; exact rfl; exact rfl); (apply ol_nil))
    | (refine cw_region_id 4 ?_; (apply ol_as; exact rfl; exact rfl); (apply ol_nil))
    | (apply cw_cond_true; exact rfl; (first | exact rfl | assumption))
    | (apply cw_cond_false; exact rfl; (first | exact rfl | assumption))
    | apply cw_skip
    | apply cw_ret
    | apply cw_block
    | apply cw_exit
  refine cw_loopK (σ := RSt) [1, 2] (by (repeat (first | exact Keep.nil | (apply Keep.cons; exact rfl)))) (fun s => [(6, .slice (base s.r none) (32 * s.k) s.c), (7, .int .u64 s.k)]) (fun _ => M) (fun s => [⟨some bk2, flat (eK .u8) h, 25⟩, ⟨s.r, flat (eK .u8) (strm h s.k) ++ s.sp, 5⟩]) (fun s => 32 * s.k < n + 32 ∧ SO s.r (32 * s.k) s.c (flat (eK .u8) (strm h s.k)) s.sp 1) (fun s => n + 32 - s.k) ⟨0, none, 0, []⟩ (by (repeat (first | exact trivial | refine And.intro rfl ?_))) (View.le.refl _) (by unfold strm; (repeat (first | exact Pick.nil | (apply Pick.cons; (focus ((repeat (first | exact Spl.here | apply Spl.there)); done))) | exact Pick.refl))) ⟨by dsimp only; omega, by unfold strm; exact SO.nil 1⟩ ?_
  rintro ⟨k, r, c, sp⟩ ⟨hk, so⟩
  dsimp only at hk so
  dsimp only
  by_cases hk' : 32 * k < n
  · have hst : flat (eK .u8) (strm h (k + 1)) = flat (eK .u8) (strm h k) ++ flat (eK .u8) (sha (h ++ be8 (k : Int))) := by
      rw [show strm h (k + 1) = strm h k ++ sha (h ++ be8 (k : Int)) by simp only [strm], flat_append]
    have hb8 := be8_length (k : Int)
    have hR := sha_length (h ++ be8 (k : Int))
    have hsum2 : ∀ (w' : World) {r : Option Nat} {A : Option Addr} {m c : Nat} {sp : List Value}, View.le M (View.of w') → OB.ok ⟨r, flat (eK .u8) h ++ flat (eK .u8) (be8 (k : Int)) ++ sp, 5⟩ w' → m = h.length + (be8 (k : Int)).length → (r = none → False) → FnC Tryd.prog 12 [.slice (base r A) m c] w' (fun v _ => v = .agg (flat (eK .u8) (sha (h ++ be8 (k : Int)))).toArray) := fun w' r A m c sp h1 h2 h3 h4 => by
      rw [← flat_append] at h2
      exact sum_spec (View.le.refl (View.of w')) (hL.mono h1) (by rw [List.length_append]; exact h3.symm) (by omega) (hb.append (isB_be8 _)) (SlA.ownK h2 (fun h => (h4 h).elim))
    generalize sha (h ++ be8 (k : Int)) = R at *
    have hcount := fun w' => count_spec w' (k : Int)
    generalize be8 (k : Int) = B at *
    repeat' first
      | apply cw_seq
      | (refine cw_region_id 5 ?_; (apply ol_mv; exact rfl; exact rfl); (apply ol_val; exact rfl; apply stp_pur; apply s_len; exact rfl; exact el_22); (apply ol_mv; exact rfl; exact rfl); (apply ol_val; exact rfl; apply stp_cmp; apply s_lss; exact rfl; exact rfl; all_goals (intro hc18; try (exfalso; (first | exact hc18 rfl | omega)))); all_goals (apply ol_nil))
      | (refine cw_region_id 7 ?_; (apply ol_val; exact rfl; apply stp_pur; apply s_sliceP; exact rfl; exact ar_25; exact sz_5; exact rfl; exact rfl; exact rfl; (intro h; first | exact rfl | cases h); (first | omega | (simp; omega) | (simp; done)); (first | omega | (simp; omega) | (simp; done)); (first | omega | (simp; omega) | (simp; done))); (apply ol_val; exact rfl; apply s_call; exact rfl; exact gf_32; (intro w' hw'; exact cloneB_spec (View.le.refl (View.of w')) hl (SlA.part0 (hw'.ok_ (by (repeat (first | exact Has.here | apply Has.there))))) (by omega)); ((intro v new h; obtain ⟨r1, A1, c1, s1, rfl, rfl, so1⟩ := h))); (apply ol_mv; exact rfl; exact rfl); (apply ol_val; exact rfl; apply s_call; exact rfl; exact gf_33; (intro w' hw'; exact hcount w'); ((intro v new h; obtain ⟨rb, Ab, cb, sb, rfl, rfl, sob⟩ := h; obtain ⟨qb, rfl⟩ : ∃ q, rb = some q := ⟨_, some_ref sob (by omega)⟩))); (apply ol_val; exact rfl; first | (apply s_append_e; exact rfl; exact rfl; (focus ((repeat constructor); done)); exact el_22; exact sz_5; exact zb_5; exact rfl; exact by_5; (first | exact (fun _ => rfl)); (first | (apply RdN.own; (focus ((repeat constructor); done)); (focus ((repeat (first | exact rfl | constructor)); done))) | (apply RdN.own; (repeat (first | exact Has.here | apply Has.there)); exact getNK_row) | (apply RdN.own; (repeat (first | exact Has.here | apply Has.there)); (apply getNK_all; omega))); (first | exact rfl | exact flatK_ones); (first | omega | (simp; omega) | (simp; done)); (first | omega | (simp; omega) | (simp; done)); intro rk25 sk25 ck25 ok25) | (apply s_append_r; exact rfl; exact rfl; (focus ((repeat constructor); done)); (first | exact rfl | exact (List.append_nil _).symm); exact el_22; exact sz_5; exact zb_5; exact rfl; exact by_5; (first | exact SO.nil _ | assumption | (exact ⟨by simp, by simp, Nat.le_refl _, by simp⟩)); (first | exact (fun _ => rfl)); (first | (apply RdN.own; (focus ((repeat constructor); done)); (focus ((repeat (first | exact rfl | constructor)); done))) | (apply RdN.own; (repeat (first | exact Has.here | apply Has.there)); exact getNK_row) | (apply RdN.own; (repeat (first | exact Has.here | apply Has.there)); (apply getNK_all; omega))); (first | exact rfl | exact flatK_ones); (first | omega | (simp; omega) | (simp; done)); (first | omega | (simp; omega) | (simp; done)); intro rk25 sk25 ck25 ok25) | (apply s_append_b; exact rfl; exact rfl; (focus ((repeat constructor); done)); (first | exact rfl | exact (List.append_nil _).symm); exact el_22; exact sz_5; exact zb_5; exact rfl; exact by_5; (first | exact SO.nil _ | assumption | (exact ⟨by simp, by simp, Nat.le_refl _, by simp⟩)); (first | exact (fun _ => rfl)); (first | (apply RdN.own; (focus ((repeat constructor); done)); (focus ((repeat (first | exact rfl | constructor)); done))) | (apply RdN.own; (repeat (first | exact Has.here | apply Has.there)); exact getNK_row) | (apply RdN.own; (repeat (first | exact Has.here | apply Has.there)); (apply getNK_all; omega))); (first | exact rfl | exact flatK_ones); (first | omega | (simp; omega) | (simp; done)); (first | omega | (simp; omega) | (simp; done)); intro rk25 sk25 ck25 ok25) | (apply s_append_n; exact rfl; exact rfl; (focus ((repeat constructor); done)); exact el_22; exact sz_5; exact zb_5; exact rfl; exact by_5; (first | exact (fun _ => rfl)); (first | (apply RdN.own; (focus ((repeat constructor); done)); (focus ((repeat (first | exact rfl | constructor)); done))) | (apply RdN.own; (repeat (first | exact Has.here | apply Has.there)); exact getNK_row) | (apply RdN.own; (repeat (first | exact Has.here | apply Has.there)); (apply getNK_all; omega))); (first | exact rfl | exact flatK_ones); (first | omega | (simp; omega) | (simp; done)); (first | omega | (simp; omega) | (simp; done)); intro rk25 sk25 ck25 ok25)); (apply ol_val; exact rfl; apply s_callv; exact rfl; exact gf_12; (intro w' hw'; exact hsum2 w' hw'.le (hw'.ok_ (by (repeat (first | exact Has.here | apply Has.there)))) rfl (fun h => by have := ok25.empty h; omega))); (apply ol_val; exact rfl; apply s_allocK; exact zk_25; intro bk8); (apply ol_eff; apply s_storeK; exact rfl; exact rfl; exact sz_25; (focus ((repeat constructor); done)); (first | assumption | (rw [List.length_replicate]) | exact rfl); (first | assumption | (rw [List.length_replicate]) | exact rfl)); (apply ol_nil))
      | (refine cw_region_id 8 ?_; (apply ol_mv; exact rfl; exact rfl); (apply ol_val; exact rfl; apply stp_pur; apply s_sliceP; exact rfl; exact ar_25; exact sz_5; exact rfl; exact rfl; exact rfl; (intro h; first | exact rfl | cases h); (first | omega | (simp; omega) | (simp; done)); (first | omega | (simp; omega) | (simp; done)); (first | omega | (simp; omega) | (simp; done))); (apply ol_val; exact rfl; first | (apply s_append_e; exact rfl; exact rfl; (focus ((repeat constructor); done)); exact el_22; exact sz_5; exact zb_5; exact rfl; exact by_5; (first | exact (fun _ => rfl)); (first | (apply RdN.own; (focus ((repeat constructor); done)); (focus ((repeat (first | exact rfl | constructor)); done))) | (apply RdN.own; (repeat (first | exact Has.here | apply Has.there)); exact getNK_row) | (apply RdN.own; (repeat (first | exact Has.here | apply Has.there)); (apply getNK_all; omega))); (first | exact rfl | exact flatK_ones); (first | omega | (simp; omega) | (simp; done)); (first | omega | (simp; omega) | (simp; done)); intro rk29 sk29 ck29 ok29) | (apply s_append_r; exact rfl; exact rfl; (focus ((repeat constructor); done)); (first | exact rfl | exact (List.append_nil _).symm); exact el_22; exact sz_5; exact zb_5; exact rfl; exact by_5; (first | exact SO.nil _ | assumption | (exact ⟨by simp, by simp, Nat.le_refl _, by simp⟩)); (first | exact (fun _ => rfl)); (first | (apply RdN.own; (focus ((repeat constructor); done)); (focus ((repeat (first | exact rfl | constructor)); done))) | (apply RdN.own; (repeat (first | exact Has.here | apply Has.there)); exact getNK_row) | (apply RdN.own; (repeat (first | exact Has.here | apply Has.there)); (apply getNK_all; omega))); (first | exact rfl | exact flatK_ones); (first | omega | (simp; omega) | (simp; done)); (first | omega | (simp; omega) | (simp; done)); intro rk29 sk29 ck29 ok29) | (apply s_append_b; exact rfl; exact rfl; (focus ((repeat constructor); done)); (first | exact rfl | exact (List.append_nil _).symm); exact el_22; exact sz_5; exact zb_5; exact rfl; exact by_5; (first | exact SO.nil _ | assumption | (exact ⟨by simp, by simp, Nat.le_refl _, by simp⟩)); (first | exact (fun _ => rfl)); (first | (apply RdN.own; (focus ((repeat constructor); done)); (focus ((repeat (first | exact rfl | constructor)); done))) | (apply RdN.own; (repeat (first | exact Has.here | apply Has.there)); exact getNK_row) | (apply RdN.own; (repeat (first | exact Has.here | apply Has.there)); (apply getNK_all; omega))); (first | exact rfl | exact flatK_ones); (first | omega | (simp; omega) | (simp; done)); (first | omega | (simp; omega) | (simp; done)); intro rk29 sk29 ck29 ok29) | (apply s_append_n; exact rfl; exact rfl; (focus ((repeat constructor); done)); exact el_22; exact sz_5; exact zb_5; exact rfl; exact by_5; (first | exact (fun _ => rfl)); (first | (apply RdN.own; (focus ((repeat constructor); done)); (focus ((repeat (first | exact rfl | constructor)); done))) | (apply RdN.own; (repeat (first | exact Has.here | apply Has.there)); exact getNK_row) | (apply RdN.own; (repeat (first | exact Has.here | apply Has.there)); (apply getNK_all; omega))); (first | exact rfl | exact flatK_ones); (first | omega | (simp; omega) | (simp; done)); (first | omega | (simp; omega) | (simp; done)); intro rk29 sk29 ck29 ok29)); (apply ol_as; exact rfl; exact rfl); (apply ol_nil))
      | (refine cw_region_id 6 ?_; (apply ol_mv; exact rfl; exact rfl); (apply ol_val; exact rfl; apply stp_pur; apply s_addW; exact rfl; exact rfl); (apply ol_as; exact rfl; exact rfl); (apply ol_nil))
      | (refine cw_region_id 9 ?_; (apply ol_mv; exact rfl; exact rfl); (apply ol_mv; exact rfl; exact rfl); (apply ol_mv; exact rfl; exact rfl); (apply ol_val; exact rfl; apply stp_pur; apply s_slice; exact rfl; exact el_22; exact sz_5; exact rfl; exact Exists.intro _ rfl; exact Exists.intro _ rfl; (intro h; first | exact rfl | cases h); (first | omega | (simp; omega) | (simp; done)); (first | omega | (simp; omega) | (simp; done)); (first | omega | (simp; omega) | (simp; done))); (apply ol_as; exact rfl; exact rfl); (apply ol_as; exact rfl; exact rfl); (apply ol_nil))
      | (apply cw_cond_true; exact rfl; (first | exact rfl | assumption))
      | (apply cw_cond_false; exact rfl; (first | exact rfl | assumption))
      | apply cw_skip
      | apply cw_ret
      | apply cw_block
      | apply cw_exit
    refine ⟨⟨k + 1, rk29, ck29, sk29⟩, ⟨?_, View.le.refl _, ?_, ⟨by dsimp only; omega, ?_⟩, by dsimp only; omega⟩⟩
    · rw [wrap_u64 (m := (k : Int) + 1) (by omega)]
      (repeat (first | exact trivial | refine And.intro rfl ?_))
    · dsimp only
      rw [hst]
      (repeat (first | exact Pick.nil | (apply Pick.cons; (focus ((repeat (first | exact Spl.here | apply Spl.there)); done))) | exact Pick.refl))
    · dsimp only
      rw [hst]
      exact ok29
  · have hkk : k = (n + 31) / 32 := by omega
    have hs : stm h n = (strm h k).take n := by rw [hkk]; unfold stm; rfl
    have hsl := strm_length h k
    have hcap := so.hle
    repeat' first
      | apply cw_seq
      | (refine cw_region_id 5 ?_; (apply ol_mv; exact rfl; exact rfl); (apply ol_val; exact rfl; apply stp_pur; apply s_len; exact rfl; exact el_22); (apply ol_mv; exact rfl; exact rfl); (apply ol_val; exact rfl; apply stp_cmp; apply s_lss; exact rfl; exact rfl; all_goals (intro hc18; try (exfalso; (first | exact hc18 rfl | omega)))); all_goals (apply ol_nil))
      | (refine cw_region_id 7 ?_; (apply ol_val; exact rfl; apply stp_pur; apply s_sliceP; exact rfl; exact ar_25; exact sz_5; exact rfl; exact rfl; exact rfl; (intro h; first | exact rfl | cases h); (first | omega | (simp; omega) | (simp; done)); (first | omega | (simp; omega) | (simp; done)); (first | omega | (simp; omega) | (simp; done))))
      | (refine cw_region_id 8 ?_; (apply ol_mv; exact rfl; exact rfl); (apply ol_val; exact rfl; apply stp_pur; apply s_sliceP; exact rfl; exact ar_25; exact sz_5; exact rfl; exact rfl; exact rfl; (intro h; first | exact rfl | cases h); (first | omega | (simp; omega) | (simp; done)); (first | omega | (simp; omega) | (simp; done)); (first | omega | (simp; omega) | (simp; done))); (apply ol_val; exact rfl; first | (apply s_append_e; exact rfl; exact rfl; (focus ((repeat constructor); done)); exact el_22; exact sz_5; exact zb_5; exact rfl; exact by_5; (first | exact (fun _ => rfl)); (first | (apply RdN.own; (focus ((repeat constructor); done)); (focus ((repeat (first | exact rfl | constructor)); done)))); (first | exact rfl); (first | omega | (simp; omega) | (simp; done)); (first | omega | (simp; omega) | (simp; done)); intro rk29 sk29 ck29 ok29) | (apply s_append_r; exact rfl; exact rfl; (focus ((repeat constructor); done)); (first | exact rfl | exact (List.append_nil _).symm); exact el_22; exact sz_5; exact zb_5; exact rfl; exact by_5; (first | exact SO.nil _ | assumption | (exact ⟨by simp, by simp, Nat.le_refl _, by simp⟩)); (first | exact (fun _ => rfl)); (first | (apply RdN.own; (focus ((repeat constructor); done)); (focus ((repeat (first | exact rfl | constructor)); done)))); (first | exact rfl); (first | omega | (simp; omega) | (simp; done)); (first | omega | (simp; omega) | (simp; done)); intro rk29 sk29 ck29 ok29) | (apply s_append_b; exact rfl; exact rfl; (focus ((repeat constructor); done)); (first | exact rfl | exact (List.append_nil _).symm); exact el_22; exact sz_5; exact zb_5; exact rfl; exact by_5; (first | exact SO.nil _ | assumption | (exact ⟨by simp, by simp, Nat.le_refl _, by simp⟩)); (first | exact (fun _ => rfl)); (first | (apply RdN.own; (focus ((repeat constructor); done)); (focus ((repeat (first | exact rfl | constructor)); done)))); (first | exact rfl); (first | omega | (simp; omega) | (simp; done)); (first | omega | (simp; omega) | (simp; done)); intro rk29 sk29 ck29 ok29) | (apply s_append_n; exact rfl; exact rfl; (focus ((repeat constructor); done)); exact el_22; exact sz_5; exact zb_5; exact rfl; exact by_5; (first | exact (fun _ => rfl)); (first | (apply RdN.own; (focus ((repeat constructor); done)); (focus ((repeat (first | exact rfl | constructor)); done)))); (first | exact rfl); (first | omega | (simp; omega) | (simp; done)); (first | omega | (simp; omega) | (simp; done)); intro rk29 sk29 ck29 ok29)); (apply ol_as; exact rfl; exact rfl); (apply ol_nil))
      | (refine cw_region_id 6 ?_; (apply ol_mv; exact rfl; exact rfl); (apply ol_val; exact rfl; apply stp_pur; apply s_addW; exact rfl; exact rfl); (apply ol_as; exact rfl; exact rfl); (apply ol_nil))
      | (refine cw_region_id 9 ?_; (apply ol_mv; exact rfl; exact rfl); (apply ol_mv; exact rfl; exact rfl); (apply ol_mv; exact rfl; exact rfl); (apply ol_val; exact rfl; apply stp_pur; apply s_slice; exact rfl; exact el_22; exact sz_5; exact rfl; exact Exists.intro _ rfl; exact Exists.intro _ rfl; (intro h; first | exact rfl | cases h); (first | omega | (simp; omega) | (simp; done)); (first | omega | (simp; omega) | (simp; done)); (first | omega | (simp; omega) | (simp; done))); (apply ol_as; exact rfl; exact rfl); (apply ol_as; exact rfl; exact rfl); (apply ol_nil))
      | (apply cw_cond_true; exact rfl; (first | exact rfl | assumption))
      | (apply cw_cond_false; exact rfl; (first | exact rfl | assumption))
      | apply cw_skip
      | apply cw_ret
      | apply cw_block
      | apply cw_exit
    refine ends [⟨r, flat (eK .u8) (strm h k) ++ sp, 5⟩] (RVal.tmp rfl (RVal.tmp rfl RVal.nil)) (by (repeat (first | exact Pick.nil | (apply Pick.cons; (focus ((repeat (first | exact Spl.here | apply Spl.there)); done))) | exact Pick.refl))) ?_
    refine ⟨r, none, n - 0, flat (eK .u8) ((strm h k).drop n) ++ sp, ?_, ?_, fun h0 => ?_, by omega⟩
    · rw [slicedA_all]; rfl
    · rw [hs, ← strm_split]
    · have := so.empty h0
      rw [hs]
      apply List.eq_nil_of_length_eq_zero
      simp; omega

theorem rexpand_spec {M : View} {w : World} (hM : View.le M (View.of w)) {h : List Int} (hl : h.length = 32) (hb : isB h) {n : Nat} (hn : n ≤ 16384) :
    FnC Tryd.prog 19 [.agg (flat (eK .u8) h).toArray, .int .i64 n] w (fun v new => ∃ r A cap sp, v = .slice (base r A) n cap ∧ new = [⟨r, flat (eK .u8) (stm h n) ++ sp, 5⟩] ∧ (r = none → stm h n = []) ∧ n ≤ cap) := by
  refine enterF (M := M) Tryd.func19 rfl rfl rfl rfl hM ?_
  refine cw_none 5 ?_
  repeat' first
    | apply cw_seq
    | (refine cw_region_id 0 ?_; (apply ol_val; exact rfl; first | (apply s_boxN; exact rfl; intro bk2) | (apply s_box1; exact rfl; exact rfl; intro bk2)); (apply ol_as; exact rfl; exact rfl); (apply ol_nil))
    | (refine cw_region_id 1 ?_; (apply ol_as; exact rfl; exact rfl); (apply ol_nil))
    | (refine cw_region_id 2 ?_; (apply ol_as; exact rfl; exact rfl); (apply ol_nil))
    | (apply cw_cond_true; exact rfl; (first | exact rfl | assumption))
    | (apply cw_cond_false; exact rfl; (first | exact rfl | assumption))
    | apply cw_skip
    | apply cw_ret
    | apply cw_block
    | apply cw_exit
  refine cw_loopK (σ := ESt) [1, 2] (by (repeat (first | exact Keep.nil | (apply Keep.cons; exact rfl)))) (fun s => [(5, .slice (base s.r s.A) (32 * s.k) s.c), (6, .int .i64 s.k)]) (fun _ => M) (fun s => [⟨some bk2, flat (eK .u8) h, 25⟩, ⟨s.r, flat (eK .u8) (strm h s.k) ++ s.sp, 5⟩]) (fun s => 32 * s.k < n + 32 ∧ SO s.r (32 * s.k) s.c (flat (eK .u8) (strm h s.k)) s.sp 1) (fun s => n + 32 - s.k) ⟨0, none, none, 0, []⟩ (by (repeat (first | exact trivial | refine And.intro rfl ?_))) (View.le.refl _) (by unfold strm; (repeat (first | exact Pick.nil | (apply Pick.cons; (focus ((repeat (first | exact Spl.here | apply Spl.there)); done))) | exact Pick.refl))) ⟨by dsimp only; omega, by unfold strm; exact SO.nil 1⟩ ?_
  rintro ⟨k, r, A, c, sp⟩ ⟨hk, so⟩
  dsimp only at hk so
  dsimp only
  have hsl := strm_length h k
  by_cases hk' : 32 * k < n
  · have hst : strm h (k + 1) = strm h k ++ sha (h ++ be8 (k : Int)) := by simp only [strm]
    have hb8 := be8_length (k : Int)
    have hR := sha_length (h ++ be8 (k : Int))
    have hsum2 : ∀ (w' : World) {r : Option Nat} {A : Option Addr} {m c : Nat} {sp : List Value}, OB.ok ⟨r, flat (eK .u8) ([] ++ h) ++ flat (eK .u8) (be8 (k : Int)) ++ sp, 5⟩ w' → m = ([] ++ h).length + (be8 (k : Int)).length → (r = none → False) → FnC Tryd.prog 13 [.slice (base r A) m c] w' (fun v _ => v = .agg (flat (eK .u8) (sha (h ++ be8 (k : Int)))).toArray) := fun w' r A m c sp h2 h3 h4 => by
      rw [← flat_append] at h2
      exact rsum_spec (View.le.refl (View.of w')) (by rw [h3]; simp) (by rw [h3]; simp; omega) (hb.append (isB_be8 _)) (SlA.ownK h2 (fun h => (h4 h).elim))
    generalize sha (h ++ be8 (k : Int)) = R at *
    have hcount := fun w' => bytes_spec w' (k : Int)
    generalize be8 (k : Int) = B at *
    have hnh : ([] ++ h).length = 32 := hl
    have hemp : r = none → strm h k = [] := fun h0 => by
      have := so.empty h0
      exact List.eq_nil_of_length_eq_zero (by omega)
    generalize strm h k = S at *
    repeat' first
      | apply cw_seq
      | (refine cw_region_id 3 ?_; (apply ol_mv; exact rfl; exact rfl); (apply ol_val; exact rfl; apply stp_pur; apply s_len; exact rfl; exact el_22); (apply ol_mv; exact rfl; exact rfl); (apply ol_val; exact rfl; apply stp_cmp; apply s_lss; exact rfl; exact rfl; all_goals (intro hc10; try (exfalso; (first | exact hc10 rfl | omega)))); all_goals (apply ol_nil))
      | (refine cw_region_id 5 ?_; (apply ol_mv; exact rfl; exact rfl); (apply ol_ldN; exact rfl; exact rfl; exact rfl; exact sz_25; (first | (apply RdN.own; (focus ((repeat constructor); done)); (apply getNK_all; (first | assumption | (rw [List.length_replicate])))) | (apply RdN.own; (repeat (first | exact Has.here | apply Has.there)); exact getNK_all hl))); (apply ol_val; exact rfl; apply s_call; exact rfl; exact gf_43; (intro w' hw'; (first | exact join_spec (View.le.refl (View.of w')) (p := []) (n := 0) rfl (by omega) hl SlA.zilch | exact join_spec (View.le.refl (View.of w')) (p := S) hsl (by omega) hR (SlA.ownK (hw'.ok_ (by (repeat (first | exact Has.here | apply Has.there)))) hemp))); ((intro v new h; first | (obtain ⟨rj1, Aj1, cj1, sj1, rfl, rfl, soj1⟩ := h)))); (apply ol_mv; exact rfl; exact rfl); (apply ol_val; exact rfl; apply s_call; exact rfl; exact gf_44; (intro w' hw'; exact hcount w'); ((intro v new h; obtain ⟨rb, Ab, cb, sb, rfl, rfl, sob⟩ := h; obtain ⟨qb, rfl⟩ : ∃ q, rb = some q := ⟨_, some_ref sob (by omega)⟩))); (apply ol_val; exact rfl; first | (apply s_append_e; exact rfl; exact rfl; (focus ((repeat constructor); done)); exact el_22; exact sz_5; exact zb_5; exact rfl; exact by_5; (first | exact (fun _ => rfl)); (first | (apply RdN.own; (focus ((repeat constructor); done)); (focus ((repeat (first | exact rfl | constructor)); done))) | (apply RdN.own; (repeat (first | exact Has.here | apply Has.there)); exact getNK_row)); (first | exact rfl | exact flatK_ones); (first | omega | (simp; omega) | (simp; done)); (first | omega | (simp; omega) | (simp; done)); intro rk18 sk18 ck18 ok18) | (apply s_append_r; exact rfl; exact rfl; (focus ((repeat constructor); done)); (first | exact rfl | exact (List.append_nil _).symm); exact el_22; exact sz_5; exact zb_5; exact rfl; exact by_5; (first | exact SO.nil _ | assumption | (exact ⟨by simp, by simp, Nat.le_refl _, by simp⟩)); (first | exact (fun _ => rfl)); (first | (apply RdN.own; (focus ((repeat constructor); done)); (focus ((repeat (first | exact rfl | constructor)); done))) | (apply RdN.own; (repeat (first | exact Has.here | apply Has.there)); exact getNK_row)); (first | exact rfl | exact flatK_ones); (first | omega | (simp; omega) | (simp; done)); (first | omega | (simp; omega) | (simp; done)); intro rk18 sk18 ck18 ok18) | (apply s_append_b; exact rfl; exact rfl; (focus ((repeat constructor); done)); (first | exact rfl | exact (List.append_nil _).symm); exact el_22; exact sz_5; exact zb_5; exact rfl; exact by_5; (first | exact SO.nil _ | assumption | (exact ⟨by simp, by simp, Nat.le_refl _, by simp⟩)); (first | exact (fun _ => rfl)); (first | (apply RdN.own; (focus ((repeat constructor); done)); (focus ((repeat (first | exact rfl | constructor)); done))) | (apply RdN.own; (repeat (first | exact Has.here | apply Has.there)); exact getNK_row)); (first | exact rfl | exact flatK_ones); (first | omega | (simp; omega) | (simp; done)); (first | omega | (simp; omega) | (simp; done)); intro rk18 sk18 ck18 ok18) | (apply s_append_n; exact rfl; exact rfl; (focus ((repeat constructor); done)); exact el_22; exact sz_5; exact zb_5; exact rfl; exact by_5; (first | exact (fun _ => rfl)); (first | (apply RdN.own; (focus ((repeat constructor); done)); (focus ((repeat (first | exact rfl | constructor)); done))) | (apply RdN.own; (repeat (first | exact Has.here | apply Has.there)); exact getNK_row)); (first | exact rfl | exact flatK_ones); (first | omega | (simp; omega) | (simp; done)); (first | omega | (simp; omega) | (simp; done)); intro rk18 sk18 ck18 ok18)); (apply ol_val; exact rfl; apply s_callv; exact rfl; exact gf_13; (intro w' hw'; exact hsum2 w' (hw'.ok_ (by (repeat (first | exact Has.here | apply Has.there)))) rfl (fun h => by have := ok18.empty h; omega))); (apply ol_val; exact rfl; apply s_call; exact rfl; exact gf_43; (intro w' hw'; (first | exact join_spec (View.le.refl (View.of w')) (p := []) (n := 0) rfl (by omega) hl SlA.zilch | exact join_spec (View.le.refl (View.of w')) (p := S) hsl (by omega) hR (SlA.ownK (hw'.ok_ (by (repeat (first | exact Has.here | apply Has.there)))) hemp))); ((intro v new h; first | (obtain ⟨rj1, Aj1, cj1, sj1, rfl, rfl, soj1⟩ := h)))); (apply ol_as; exact rfl; exact rfl); (apply ol_nil))
      | (refine cw_region_id 4 ?_; (apply ol_mv; exact rfl; exact rfl); (apply ol_val; exact rfl; apply stp_pur; apply s_add64; exact rfl; exact rfl; omega); (apply ol_as; exact rfl; exact rfl); (apply ol_nil))
      | (refine cw_region_id 6 ?_; (apply ol_mv; exact rfl; exact rfl); (apply ol_mv; exact rfl; exact rfl); (apply ol_val; exact rfl; apply stp_pur; apply s_slice; exact rfl; exact el_22; exact sz_5; exact rfl; exact Exists.intro _ rfl; exact rfl; (intro h; first | exact rfl | cases h); (first | omega | (simp; omega) | (simp; done)); (first | omega | (simp; omega) | (simp; done)); (first | omega | (simp; omega) | (simp; done))); (apply ol_as; exact rfl; exact rfl); (apply ol_nil))
      | (apply cw_cond_true; exact rfl; (first | exact rfl | assumption))
      | (apply cw_cond_false; exact rfl; (first | exact rfl | assumption))
      | apply cw_skip
      | apply cw_ret
      | apply cw_block
      | apply cw_exit
    refine ⟨⟨k + 1, rj1, Aj1, cj1, sj1⟩, ⟨?_, View.le.refl _, ?_, ⟨by dsimp only; omega, ?_⟩, by dsimp only; omega⟩⟩
    · dsimp only
      rw [show 32 * (k + 1) = (S ++ R).length by rw [List.length_append]; omega]
      (repeat (first | exact trivial | refine And.intro rfl ?_))
    · dsimp only
      rw [hst]
      (repeat (first | exact Pick.nil | (apply Pick.cons; (focus ((repeat (first | exact Spl.here | apply Spl.there)); done))) | exact Pick.refl))
    · dsimp only
      rw [hst, show 32 * (k + 1) = (S ++ R).length by rw [List.length_append]; omega]
      exact soj1
  · have hkk : k = (n + 31) / 32 := by omega
    have hs : stm h n = (strm h k).take n := by rw [hkk]; unfold stm; rfl
    have hcap := so.hle
    repeat' first
      | apply cw_seq
      | (refine cw_region_id 3 ?_; (apply ol_mv; exact rfl; exact rfl); (apply ol_val; exact rfl; apply stp_pur; apply s_len; exact rfl; exact el_22); (apply ol_mv; exact rfl; exact rfl); (apply ol_val; exact rfl; apply stp_cmp; apply s_lss; exact rfl; exact rfl; all_goals (intro hc10; try (exfalso; (first | exact hc10 rfl | omega)))); all_goals (apply ol_nil))
      | (refine cw_region_id 5 ?_; (apply ol_mv; exact rfl; exact rfl); (apply ol_ldN; exact rfl; exact rfl; exact rfl; exact sz_25; (apply RdN.own; (focus ((repeat constructor); done)); (apply getNK_all; (first | assumption | (rw [List.length_replicate]))))))
      | (refine cw_region_id 4 ?_; (apply ol_mv; exact rfl; exact rfl); (apply ol_val; exact rfl; apply stp_pur; apply s_add64; exact rfl; exact rfl; omega); (apply ol_as; exact rfl; exact rfl); (apply ol_nil))
      | (refine cw_region_id 6 ?_; (apply ol_mv; exact rfl; exact rfl); (apply ol_mv; exact rfl; exact rfl); (apply ol_val; exact rfl; apply stp_pur; apply s_slice; exact rfl; exact el_22; exact sz_5; exact rfl; exact Exists.intro _ rfl; exact rfl; (intro h; first | exact rfl | cases h); (first | omega | (simp; omega) | (simp; done)); (first | omega | (simp; omega) | (simp; done)); (first | omega | (simp; omega) | (simp; done))); (apply ol_as; exact rfl; exact rfl); (apply ol_nil))
      | (apply cw_cond_true; exact rfl; (first | exact rfl | assumption))
      | (apply cw_cond_false; exact rfl; (first | exact rfl | assumption))
      | apply cw_skip
      | apply cw_ret
      | apply cw_block
      | apply cw_exit
    refine ends [⟨r, flat (eK .u8) (strm h k) ++ sp, 5⟩] (RVal.tmp rfl RVal.nil) (by (repeat (first | exact Pick.nil | (apply Pick.cons; (focus ((repeat (first | exact Spl.here | apply Spl.there)); done))) | exact Pick.refl))) ?_
    refine ⟨r, A, c - 0, flat (eK .u8) ((strm h k).drop n) ++ sp, ?_, ?_, fun h0 => ?_, by omega⟩
    · rw [slicedA_all]; rfl
    · rw [hs, ← strm_split]
    · have := so.empty h0
      rw [hs]
      apply List.eq_nil_of_length_eq_zero
      simp; omega
end Go.Proofs.YthhhleplbmpakaaDoor
