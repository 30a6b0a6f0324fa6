/-
  The walks of appending.
-/
import Derived.Test.YtelidojkpbaofaaDoorJ4
namespace Go.Proofs.YtelidojkpbaofaaDoor
set_option maxRecDepth 20000
set_option linter.unusedSimpArgs false
set_option linter.unusedVariables false
open Go Go.Fw
theorem JR.of {p : List Int} {du af : Int} {r : Option Nat} {A : Option Addr} {cap N : Nat} {sp : List Value} (so : SO r N cap (flat (eK .u8) p) sp 1) (hN : p.length = N) : JR ⟨p, du, af⟩ (.agg [.slice (base r A) N cap, .int .i64 du, .int .i64 af].toArray) [⟨r, flat (eK .u8) p ++ sp, 5⟩] := by
  subst hN
  exact ⟨r, A, cap, sp, rfl, rfl, fun h => so.emp h, so.hle⟩
theorem JRE.err (e : Int) : JRE (.zero, e) (.tuple #[.agg [.slice none 0 0, .int .i64 0, .int .i64 0].toArray, .int .i64 e]) [⟨none, [], 5⟩] := ⟨_, rfl, JR.of (r := none) (A := none) (p := []) (sp := []) (SO.nil 1) rfl⟩
theorem take_all {p : List Int} {n : Nat} (h : p.length ≤ n) : p.take n = p := List.take_of_length_le h
end Go.Proofs.YtelidojkpbaofaaDoor
namespace Go.Proofs.YtelidojkpbaofaaDoor
set_option maxRecDepth 20000
set_option linter.unusedSimpArgs false
set_option linter.unusedVariables false
open Go Go.Fw
attribute [local irreducible] CW OL OD FX Stp FnC Ret sha strOf be8 be4 frB wrN wrA
set_option maxHeartbeats 800000
theorem japp_spec {M : View} {w : World} (hM : View.le M (View.of w)) (hL : Laid M) {j : JV} {n c m cb : Nat} {a ab : Option Addr} {bj oj bb oo : Nat} (hn : j.by_.length = n) (s : SlA M (eK .u8) 1 a j.by_ bj oj) {b : List Int} (hm : b.length = m) (hb : isB b) (sb : SlA M (eK .u8) 1 ab b bb oo) :
    FnC Tryd.prog 12 [.agg [.slice a n c, .int .i64 j.du, .int .i64 j.af].toArray, .slice ab m cb] w (JRE (appJ j b)) := by
  obtain ⟨p, du, af⟩ := j
  dsimp only at hn s
  refine enterF (M := M) Tryd.func12 rfl rfl rfl rfl hM ?_
  have kv := fun (w' : World) => jvalid_spec w' (n := n) (c := c) (a := a) du af
  unfold appJ validJ
  dsimp only
  rw [hn, hm]
  by_cases hv : validN n du af
  · rw [if_neg (fun h => h hv)]
    rw [decide_eq_true hv] at kv
    have hv' := hv
    unfold validN at hv'
    by_cases hbig : 16384 < m ∨ 1048576 < n + 36 + m
    · rw [if_pos hbig]
      refine cw_none 5 ?_
      repeat' first
        | apply cw_seq
        | (refine cw_region_id 0 ?_; (apply ol_val; exact rfl; first | (apply s_boxN; exact rfl; intro bk2) | (apply s_box1; exact rfl; exact rfl; intro bk2)); (apply ol_val; exact rfl; apply s_alloc; exact zb_24; (focus ((repeat constructor); done)); intro bk4); (apply ol_as; exact rfl; exact rfl); (apply ol_nil))
        | (refine cw_region_id 1 ?_; (apply ol_ldN; exact rfl; exact rfl; exact rfl; exact sz_24; (apply RdN.own; (focus ((repeat constructor); done)); (focus ((repeat (first | exact rfl | constructor)); done)))); (apply ol_val; exact rfl; apply s_callv; exact rfl; exact gf_14; (intro w' hw'; exact kv w')); (apply ol_val; exact rfl; apply stp_pur; first | (apply s_not_t; exact rfl; (first | exact rfl | assumption)) | (apply s_not_f; exact rfl; (first | exact rfl | assumption)) | (apply s_not; exact rfl)); (apply ol_as; exact rfl; exact rfl); (apply ol_nil))
        | (refine cw_region_id 3 ?_; (apply ol_mv; exact rfl; exact rfl); (apply ol_val; exact rfl; apply stp_pur; apply s_len; exact rfl; exact el_22); (apply ol_val; exact rfl; apply stp_cmp; apply s_gtr; exact rfl; exact rfl; all_goals (intro hc15; try (exfalso; (first | exact hc15 rfl | omega)))); all_goals (apply ol_mv; exact rfl; exact rfl); all_goals (first | (apply ol_gskip; exact rfl; exact rfl; (first | exact rfl | assumption); exact rfl) | (apply ol_gval; exact rfl; exact rfl; exact rfl; (first | exact rfl | assumption); apply stp_pur; apply s_fieldAddr'; exact rfl; exact fd_24_0; (first | exact Nat.zero_add _ | exact Nat.add_zero _ | exact rfl))); all_goals (first | (apply ol_gskip; exact rfl; exact rfl; (first | exact rfl | assumption); exact rfl) | (apply ol_gval; exact rfl; exact rfl; exact rfl; (first | exact rfl | assumption); apply stp_pur; apply s_load1; exact rfl; exact rfl; (apply RdN.own; (focus ((repeat constructor); done)); exact GetN.cons rfl GetN.nil))); all_goals (first | (apply ol_gskip; exact rfl; exact rfl; (first | exact rfl | assumption); exact rfl) | (apply ol_gval; exact rfl; exact rfl; exact rfl; (first | exact rfl | assumption); apply stp_pur; apply s_len; exact rfl; exact el_22)); all_goals (first | (apply ol_gskip; exact rfl; exact rfl; (first | exact rfl | assumption); exact rfl) | (apply ol_gval; exact rfl; exact rfl; exact rfl; (first | exact rfl | assumption); apply stp_pur; apply s_add64; exact rfl; exact rfl; omega)); all_goals (first | (apply ol_gskip; exact rfl; exact rfl; (first | exact rfl | assumption); exact rfl) | (apply ol_gval; exact rfl; exact rfl; exact rfl; (first | exact rfl | assumption); apply stp_pur; apply s_move; exact rfl)); all_goals (first | (apply ol_gskip; exact rfl; exact rfl; (first | exact rfl | assumption); exact rfl) | (apply ol_gval; exact rfl; exact rfl; exact rfl; (first | exact rfl | assumption); apply stp_pur; apply s_len; exact rfl; exact el_22)); all_goals (first | (apply ol_gskip; exact rfl; exact rfl; (first | exact rfl | assumption); exact rfl) | (apply ol_gval; exact rfl; exact rfl; exact rfl; (first | exact rfl | assumption); apply stp_pur; apply s_add64; exact rfl; exact rfl; omega)); all_goals (first | (apply ol_gskip; exact rfl; exact rfl; (first | exact rfl | assumption); exact rfl) | (apply ol_gval; exact rfl; exact rfl; exact rfl; (first | exact rfl | assumption); apply stp_cmp; apply s_gtr; exact rfl; exact rfl; all_goals (intro hc24; try (exfalso; (first | exact hc24 rfl | omega))))); all_goals (apply ol_val; exact rfl; apply stp_pur; first | (apply s_pick_t; exact rfl; (first | exact rfl | assumption); exact rfl) | (apply s_pick_f; exact rfl; (first | exact rfl | assumption); exact rfl)); all_goals (apply ol_as; exact rfl; exact rfl); all_goals (apply ol_nil))
        | (refine cw_region_id 4 ?_; (apply ol_val; exact rfl; apply stp_pur; apply s_buildS; exact rfl; exact fs_24; exact zb_24; (focus ((repeat (first | exact rfl | constructor)); done))); (apply ol_eff; apply s_storeN; exact rfl; exact rfl; exact sz_24; exact rfl; exact rfl; (focus ((repeat constructor); done)); (focus ((repeat constructor); done))); (apply ol_as; exact rfl; exact rfl); (apply ol_nil))
        | (apply cw_cond_true; exact rfl; (first | exact rfl | assumption))
        | (apply cw_cond_false; exact rfl; (first | exact rfl | assumption))
        | apply cw_skip
        | apply cw_ret
        | apply cw_block
        | apply cw_exit
      all_goals (refine ends [⟨none, [], 5⟩] (RVal.cellN rfl rfl rfl (RdN.own (by (repeat (first | exact Has.here | apply Has.there))) (GetN.cons rfl (GetN.cons rfl (GetN.cons rfl GetN.nil)))) (RVal.tmp rfl RVal.nil)) (by (repeat (first | exact Pick.nil | (apply Pick.cons; (focus ((repeat (first | exact Spl.here | apply Spl.there)); done))) | exact Pick.refl))) (JRE.err 5))
    · rw [if_neg hbig]
      repeat' first
        | apply cw_seq
        | (refine cw_region_id 0 ?_; (apply ol_val; exact rfl; first | (apply s_boxN; exact rfl; intro bk2) | (apply s_box1; exact rfl; exact rfl; intro bk2)); (apply ol_val; exact rfl; apply s_alloc; exact zb_24; (focus ((repeat constructor); done)); intro bk4); (apply ol_as; exact rfl; exact rfl); (apply ol_nil))
        | (refine cw_region_id 1 ?_; (apply ol_ldN; exact rfl; exact rfl; exact rfl; exact sz_24; (apply RdN.own; (focus ((repeat constructor); done)); (focus ((repeat (first | exact rfl | constructor)); done)))); (apply ol_val; exact rfl; apply s_callv; exact rfl; exact gf_14; (intro w' hw'; exact kv w')); (apply ol_val; exact rfl; apply stp_pur; first | (apply s_not_t; exact rfl; (first | exact rfl | assumption)) | (apply s_not_f; exact rfl; (first | exact rfl | assumption)) | (apply s_not; exact rfl)); (apply ol_as; exact rfl; exact rfl); (apply ol_nil))
        | (refine cw_region_id 3 ?_; (apply ol_mv; exact rfl; exact rfl); (apply ol_val; exact rfl; apply stp_pur; apply s_len; exact rfl; exact el_22); (apply ol_val; exact rfl; apply stp_cmp; apply s_gtr; exact rfl; exact rfl; all_goals (intro hc15; try (exfalso; (first | exact hc15 rfl | omega)))); all_goals (apply ol_mv; exact rfl; exact rfl); all_goals (first | (apply ol_gskip; exact rfl; exact rfl; (first | exact rfl | assumption); exact rfl) | (apply ol_gval; exact rfl; exact rfl; exact rfl; (first | exact rfl | assumption); apply stp_pur; apply s_fieldAddr'; exact rfl; exact fd_24_0; (first | exact Nat.zero_add _ | exact Nat.add_zero _ | exact rfl))); all_goals (first | (apply ol_gskip; exact rfl; exact rfl; (first | exact rfl | assumption); exact rfl) | (apply ol_gval; exact rfl; exact rfl; exact rfl; (first | exact rfl | assumption); apply stp_pur; apply s_load1; exact rfl; exact rfl; (apply RdN.own; (focus ((repeat constructor); done)); exact GetN.cons rfl GetN.nil))); all_goals (first | (apply ol_gskip; exact rfl; exact rfl; (first | exact rfl | assumption); exact rfl) | (apply ol_gval; exact rfl; exact rfl; exact rfl; (first | exact rfl | assumption); apply stp_pur; apply s_len; exact rfl; exact el_22)); all_goals (first | (apply ol_gskip; exact rfl; exact rfl; (first | exact rfl | assumption); exact rfl) | (apply ol_gval; exact rfl; exact rfl; exact rfl; (first | exact rfl | assumption); apply stp_pur; apply s_add64; exact rfl; exact rfl; omega)); all_goals (first | (apply ol_gskip; exact rfl; exact rfl; (first | exact rfl | assumption); exact rfl) | (apply ol_gval; exact rfl; exact rfl; exact rfl; (first | exact rfl | assumption); apply stp_pur; apply s_move; exact rfl)); all_goals (first | (apply ol_gskip; exact rfl; exact rfl; (first | exact rfl | assumption); exact rfl) | (apply ol_gval; exact rfl; exact rfl; exact rfl; (first | exact rfl | assumption); apply stp_pur; apply s_len; exact rfl; exact el_22)); all_goals (first | (apply ol_gskip; exact rfl; exact rfl; (first | exact rfl | assumption); exact rfl) | (apply ol_gval; exact rfl; exact rfl; exact rfl; (first | exact rfl | assumption); apply stp_pur; apply s_add64; exact rfl; exact rfl; omega)); all_goals (first | (apply ol_gskip; exact rfl; exact rfl; (first | exact rfl | assumption); exact rfl) | (apply ol_gval; exact rfl; exact rfl; exact rfl; (first | exact rfl | assumption); apply stp_cmp; apply s_gtr; exact rfl; exact rfl; all_goals (intro hc24; try (exfalso; (first | exact hc24 rfl | omega))))); all_goals (apply ol_val; exact rfl; apply stp_pur; first | (apply s_pick_t; exact rfl; (first | exact rfl | assumption); exact rfl) | (apply s_pick_f; exact rfl; (first | exact rfl | assumption); exact rfl)); all_goals (apply ol_as; exact rfl; exact rfl); all_goals (apply ol_nil))
        | (refine cw_region_id 5 ?_; (apply ol_ldN; exact rfl; exact rfl; exact rfl; exact sz_24; (apply RdN.own; (focus ((repeat constructor); done)); (focus ((repeat (first | exact rfl | constructor)); done)))); (apply ol_val; exact rfl; apply stp_pur; apply s_buildS; exact rfl; exact fs_58; exact zb_58; (focus ((repeat (first | exact Fil.nil | (apply Fil.one; exact rfl; exact rfl; (repeat (first | exact SetAt.zero | apply SetAt.succ))) | (apply Fil.agg; exact rfl; exact rfl; (repeat (first | exact SetN.nil | (apply SetN.cons; (repeat (first | exact SetAt.zero | apply SetAt.succ))))); (exact Nat.le_of_ble_eq_true rfl)))); done))); (apply ol_val; exact rfl; first | (apply s_boxN; exact rfl; intro bk29) | (apply s_box1; exact rfl; exact rfl; intro bk29)); (apply ol_as; exact rfl; exact rfl); (apply ol_nil))
        | (apply cw_cond_true; exact rfl; (first | exact rfl | assumption))
        | (apply cw_cond_false; exact rfl; (first | exact rfl | assumption))
        | apply cw_skip
        | apply cw_ret
        | apply cw_block
        | apply cw_exit
      refine cw_none 5 ?_
      have hfl := frB_length b
      rw [hm] at hfl
      have hwn := wrN_le (n := 36 + m) hv'.2.2.2.1
      have htl : (p ++ (frB b).take (wrN af (36 + m))).length = n + wrN af (36 + m) := by rw [List.length_append, List.length_take]; omega
      unfold wrJ
      dsimp only
      rw [hfl]
      by_cases hw : wrN af (36 + m) < 36 + m
      · rw [if_pos hw]
        have hw0 : decide (wrN af (0 + 36 + m) = 0 + 36 + m) = false := by
          rw [Nat.zero_add]; exact decide_eq_false (by omega)
        repeat' first
          | apply cw_seq
          | (refine cw_region_id 6 ?_; (apply ol_mv; exact rfl; exact rfl); (apply ol_mv; exact rfl; exact rfl); (apply ol_val; exact rfl; (refine frame_step (P := []) (sp := []) (r := none) (m := 0) (cap := 0) hL rfl rfl hm (by omega) hb sb (SO.nil 1) (by omega) ?_; intro r1 s1 c1 so1)); all_goals (apply ol_val; exact rfl; (refine write_step (p := [] ++ frB b) (b := p) rfl rfl hn (by omega) s (by rw [List.nil_append, hfl, Nat.zero_add]) so1.hle (by omega) (fun h => absurd (so1.empty h) (by omega)) ⟨hv'.2.2.2.1, hv'.2.2.2.2⟩ ?_; intro r2 A2 c2 s2 so2; rw [hw0])); all_goals (apply ol_val; exact rfl; apply stp_pur; first | (apply s_not_t; exact rfl; (first | exact rfl | assumption)) | (apply s_not_f; exact rfl; (first | exact rfl | assumption)) | (apply s_not; exact rfl)); all_goals (apply ol_nil))
          | (refine cw_region_id 7 ?_; (apply ol_mv; exact rfl; exact rfl); (apply ol_val; exact rfl; apply stp_pur; apply s_nilCheck; exact rfl); (apply ol_fa; exact rfl; exact rfl; exact fd_58_0; (first | exact Nat.zero_add _ | exact Nat.add_zero _ | exact rfl)); (apply ol_ldN; exact rfl; exact rfl; exact rfl; exact sz_24; (apply RdN.own; (focus ((repeat constructor); done)); (focus ((repeat (first | exact rfl | constructor)); done)))); (apply ol_eff; apply s_storeN; exact rfl; exact rfl; exact sz_24; exact rfl; exact rfl; (focus ((repeat constructor); done)); (focus ((repeat constructor); done))); (apply ol_as; exact rfl; exact rfl); (apply ol_nil))
          | (apply cw_cond_true; exact rfl; (first | exact rfl | assumption))
          | (apply cw_cond_false; exact rfl; (first | exact rfl | assumption))
          | apply cw_skip
          | apply cw_ret
          | apply cw_block
          | apply cw_exit
        rw [Nat.zero_add, List.nil_append] at so2 ⊢
        refine ends [⟨r2, flat (eK .u8) (p ++ (frB b).take (wrN af (36 + m))) ++ s2, 5⟩] (RVal.cellN rfl rfl rfl (RdN.own (by (repeat (first | exact Has.here | apply Has.there))) (GetN.cons rfl (GetN.cons rfl (GetN.cons rfl GetN.nil)))) (RVal.tmp rfl RVal.nil)) (by (repeat (first | exact Pick.nil | (apply Pick.cons; (focus ((repeat (first | exact Spl.here | apply Spl.there)); done))) | exact Pick.refl))) ?_
        exact ⟨_, rfl, JR.of so2 htl⟩
      · rw [if_neg hw]
        have hw0 : decide (wrN af (0 + 36 + m) = 0 + 36 + m) = true := by
          rw [Nat.zero_add]; exact decide_eq_true (by omega)
        repeat' first
          | apply cw_seq
          | (refine cw_region_id 6 ?_; (apply ol_mv; exact rfl; exact rfl); (apply ol_mv; exact rfl; exact rfl); (apply ol_val; exact rfl; (refine frame_step (P := []) (sp := []) (r := none) (m := 0) (cap := 0) hL rfl rfl hm (by omega) hb sb (SO.nil 1) (by omega) ?_; intro r1 s1 c1 so1)); all_goals (apply ol_val; exact rfl; (refine write_step (p := [] ++ frB b) (b := p) rfl rfl hn (by omega) s (by rw [List.nil_append, hfl, Nat.zero_add]) so1.hle (by omega) (fun h => absurd (so1.empty h) (by omega)) ⟨hv'.2.2.2.1, hv'.2.2.2.2⟩ ?_; intro r2 A2 c2 s2 so2; rw [hw0])); all_goals (apply ol_val; exact rfl; apply stp_pur; first | (apply s_not_t; exact rfl; (first | exact rfl | assumption)) | (apply s_not_f; exact rfl; (first | exact rfl | assumption)) | (apply s_not; exact rfl)); all_goals (apply ol_nil))
          | (refine cw_region_id 8 ?_; (apply ol_mv; exact rfl; exact rfl); (apply ol_val; exact rfl; apply stp_pur; apply s_nilCheck; exact rfl); (apply ol_fa; exact rfl; exact rfl; exact fd_58_0; (first | exact Nat.zero_add _ | exact Nat.add_zero _ | exact rfl)); (apply ol_ldN; exact rfl; exact rfl; exact rfl; exact sz_24; (apply RdN.own; (focus ((repeat constructor); done)); (focus ((repeat (first | exact rfl | constructor)); done)))); (apply ol_eff; apply s_storeN; exact rfl; exact rfl; exact sz_24; exact rfl; exact rfl; (focus ((repeat constructor); done)); (focus ((repeat constructor); done))); (apply ol_as; exact rfl; exact rfl); (apply ol_nil))
          | (apply cw_cond_true; exact rfl; (first | exact rfl | assumption))
          | (apply cw_cond_false; exact rfl; (first | exact rfl | assumption))
          | apply cw_skip
          | apply cw_ret
          | apply cw_block
          | apply cw_exit
        rw [Nat.zero_add, List.nil_append] at so2 ⊢
        refine ends [⟨r2, flat (eK .u8) (p ++ (frB b).take (wrN af (36 + m))) ++ s2, 5⟩] (RVal.cellN rfl rfl rfl (RdN.own (by (repeat (first | exact Has.here | apply Has.there))) (GetN.cons rfl (GetN.cons rfl (GetN.cons rfl GetN.nil)))) (RVal.tmp rfl RVal.nil)) (by (repeat (first | exact Pick.nil | (apply Pick.cons; (focus ((repeat (first | exact Spl.here | apply Spl.there)); done))) | exact Pick.refl))) ?_
        exact ⟨_, rfl, JR.of so2 htl⟩
  · rw [if_pos hv]
    rw [decide_eq_false hv] at kv
    refine cw_none 5 ?_
    repeat' first
      | apply cw_seq
      | (refine cw_region_id 0 ?_; (apply ol_val; exact rfl; first | (apply s_boxN; exact rfl; intro bk2) | (apply s_box1; exact rfl; exact rfl; intro bk2)); (apply ol_val; exact rfl; apply s_alloc; exact zb_24; (focus ((repeat constructor); done)); intro bk4); (apply ol_as; exact rfl; exact rfl); (apply ol_nil))
      | (refine cw_region_id 1 ?_; (apply ol_ldN; exact rfl; exact rfl; exact rfl; exact sz_24; (apply RdN.own; (focus ((repeat constructor); done)); (focus ((repeat (first | exact rfl | constructor)); done)))); (apply ol_val; exact rfl; apply s_callv; exact rfl; exact gf_14; (intro w' hw'; exact kv w')); (apply ol_val; exact rfl; apply stp_pur; first | (apply s_not_t; exact rfl; (first | exact rfl | assumption)) | (apply s_not_f; exact rfl; (first | exact rfl | assumption)) | (apply s_not; exact rfl)); (apply ol_as; exact rfl; exact rfl); (apply ol_nil))
      | (refine cw_region_id 2 ?_; (apply ol_val; exact rfl; apply stp_pur; apply s_buildS; exact rfl; exact fs_24; exact zb_24; (focus ((repeat (first | exact rfl | constructor)); done))); (apply ol_eff; apply s_storeN; exact rfl; exact rfl; exact sz_24; exact rfl; exact rfl; (focus ((repeat constructor); done)); (focus ((repeat constructor); done))); (apply ol_as; exact rfl; exact rfl); (apply ol_nil))
      | (apply cw_cond_true; exact rfl; (first | exact rfl | assumption))
      | (apply cw_cond_false; exact rfl; (first | exact rfl | assumption))
      | apply cw_skip
      | apply cw_ret
      | apply cw_block
      | apply cw_exit
    refine ends [⟨none, [], 5⟩] (RVal.cellN rfl rfl rfl (RdN.own (by (repeat (first | exact Has.here | apply Has.there))) (GetN.cons rfl (GetN.cons rfl (GetN.cons rfl GetN.nil)))) (RVal.tmp rfl RVal.nil)) (by (repeat (first | exact Pick.nil | (apply Pick.cons; (focus ((repeat (first | exact Spl.here | apply Spl.there)); done))) | exact Pick.refl))) (JRE.err 1)
end Go.Proofs.YtelidojkpbaofaaDoor
