/-
  The walks of texts of digests: comparing, reading.
-/
import Derived.Test.YthhhleplbmpakaaDoorH1
namespace Go.Proofs.YthhhleplbmpakaaDoor
set_option maxRecDepth 20000
set_option linter.unusedSimpArgs false
set_option linter.unusedVariables false
open Go Go.Fw
attribute [local irreducible] CW OL OD FX Stp FnC Ret DG cmpI hexN strOf hx
set_option maxHeartbeats 800000
theorem en_54 : (Tryd.f54.name == "runtime.NumGoroutine") = false := by kernel_rfl
theorem eb_54 : Tryd.f54.body.isNone = true := by kernel_rfl
theorem ex_54 : Extern.findNext Tryd.f54 = none := by kernel_rfl
theorem ef_54 : Extern.find Tryd.f54 = some Extern.BytealgCompare.compare := by kernel_rfl
theorem en_55 : (Tryd.f55.name == "runtime.NumGoroutine") = false := by kernel_rfl
theorem eb_55 : Tryd.f55.body.isNone = true := by kernel_rfl
theorem ex_55 : Extern.findNext Tryd.f55 = none := by kernel_rfl
theorem ef_55 : Extern.find Tryd.f55 = some Extern.BytealgCompare.compare := by kernel_rfl
theorem en_61 : (Tryd.f61.name == "runtime.NumGoroutine") = false := by kernel_rfl
theorem eb_61 : Tryd.f61.body.isNone = true := by kernel_rfl
theorem ex_61 : Extern.findNext Tryd.f61 = none := by kernel_rfl
theorem ef_61 : Extern.find Tryd.f61 = some Extern.BytealgIndexByte.indexByte := by kernel_rfl

theorem bcompare_spec {M : View} {w : World} (hM : View.le M (View.of w)) {x y : List Int} {n n' c c' : Nat} (hn : x.length = n) (hn' : y.length = n') (hbx : isB x) (hby : isB y) {a a' : Option Addr} {b o b' o' : Nat} (s : SlA M (eK .u8) 1 a x b o) (s' : SlA M (eK .u8) 1 a' y b' o') :
    FnC Tryd.prog 39 [.slice a n c, .slice a' n' c'] w (fun v _ => v = .int .i64 (cmpI x y)) := by
  refine enterF (M := M) Tryd.func39 rfl rfl rfl rfl hM ?_
  repeat' first
    | apply cw_seq
    | (refine cw_region_id 0 ?_; (apply ol_as; exact rfl; exact rfl); (apply ol_nil))
    | (refine cw_region_id 1 ?_; (apply ol_mv; exact rfl; exact rfl); (apply ol_mv; exact rfl; exact rfl); (apply ol_val; exact rfl; apply s_externS; exact rfl; exact Tryd.func54; exact en_54; exact eb_54; exact ex_54; exact ef_54; (intro w hs; exact run_cmpSlices hs (s.atn hn) hn (s.rd hn) (s'.atn hn') hn' (s'.rd hn') hbx.mem hby.mem)); all_goals (apply ol_as; exact rfl; exact rfl); all_goals (apply ol_nil))
    | (apply cw_cond_true; exact rfl; (first | exact rfl | assumption))
    | (apply cw_cond_false; exact rfl; (first | exact rfl | assumption))
    | apply cw_skip
    | apply cw_ret
    | apply cw_block
    | apply cw_exit
  refine ends [] (RVal.tmp rfl RVal.nil) Pick.nil ?_
  rfl

theorem compare_spec (w : World) {x y : List Int} (hx : x.length = 32) (hy : y.length = 32) (hbx : isB x) (hby : isB y) :
    FnC Tryd.prog 14 [.agg (flat (eK .u8) x).toArray, .agg (flat (eK .u8) y).toArray] w (fun v _ => v = .int .i64 (cmpI x y)) := by
  refine enterF (M := View.of w) Tryd.func14 rfl rfl rfl rfl (View.le.refl _) ?_
  repeat' first
    | apply cw_seq
    | (refine cw_region_id 0 ?_; (apply ol_val; exact rfl; first | (apply s_boxN; exact rfl; intro bk2) | (apply s_box1; exact rfl; exact rfl; intro bk2)); (apply ol_val; exact rfl; first | (apply s_boxN; exact rfl; intro bk3) | (apply s_box1; exact rfl; exact rfl; intro bk3)); (apply ol_as; exact rfl; exact rfl); (apply ol_nil))
    | (refine cw_draw (id := 1) 4 (.mv 0 (.mv 1 (.fx 2 (.mv 3 (PT.nil))))) mixed (by kernel_rfl) ?_; (apply od_mv; exact rfl; exact rfl; apply s_sliceP; exact rfl; exact ar_25; exact sz_5; exact rfl; exact rfl; exact rfl; (intro h; first | exact rfl | cases h); (first | omega | (simp; omega) | (simp; done)); (first | omega | (simp; omega) | (simp; done)); (first | omega | (simp; omega) | (simp; done))); (apply od_mv; exact rfl; exact rfl; apply s_sliceP; exact rfl; exact ar_25; exact sz_5; exact rfl; exact rfl; exact rfl; (intro h; first | exact rfl | cases h); (first | omega | (simp; omega) | (simp; done)); (first | omega | (simp; omega) | (simp; done)); (first | omega | (simp; omega) | (simp; done))); (apply od_fx; (first | exact Wk.refl _ _ | (focus (apply Wk.mk; exact View.le.refl _; (repeat constructor); done))); (apply fx_val; exact rfl; exact rfl; apply s_callv; exact rfl; exact gf_39; (intro w' hw'; exact bcompare_spec (View.le.refl (View.of w')) hx hy hbx hby (SlA.part0 (hw'.ok_ (by (repeat (first | exact Has.here | apply Has.there))))) (SlA.part0 (hw'.ok_ (by (repeat (first | exact Has.here | apply Has.there)))))))); (apply od_mv; exact rfl; exact rfl; apply s_assign; exact rfl); (apply od_nil; (first | exact Wk.refl _ _ | (focus (apply Wk.mk; exact View.le.refl _; (repeat constructor); done)))); (apply ol_nil))
    | (apply cw_cond_true; exact rfl; (first | exact rfl | assumption))
    | (apply cw_cond_false; exact rfl; (first | exact rfl | assumption))
    | apply cw_skip
    | apply cw_ret
    | apply cw_block
    | apply cw_exit
  refine ends [] (RVal.tmp rfl RVal.nil) Pick.nil ?_
  rfl

theorem scompare_spec (w : World) {x y : List Int} (hbx : isB x) (hby : isB y) :
    FnC Tryd.prog 15 [.string (strOf x), .string (strOf y)] w (fun v _ => v = .int .i64 (cmpI x y)) := by
  refine enterF (M := View.of w) Tryd.func15 rfl rfl rfl rfl (View.le.refl _) ?_
  have h1 : ∀ w, FnC Tryd.prog 40 [.string (strOf x), .string (strOf y)] w (fun v _ => v = .int .i64 (cmpI x y)) := fun w => by
    refine enterF (M := View.of w) Tryd.func40 rfl rfl rfl rfl (View.le.refl _) ?_
    repeat' first
      | apply cw_seq
      | (refine cw_region_id 0 ?_; (apply ol_as; exact rfl; exact rfl); (apply ol_nil))
      | (refine cw_region_id 1 ?_; (apply ol_mv; exact rfl; exact rfl); (apply ol_mv; exact rfl; exact rfl); (apply ol_val; exact rfl; apply s_externS; exact rfl; exact Tryd.func55; exact en_55; exact eb_55; exact ex_55; exact ef_55; (intro w hs; exact run_cmpStrings hbx.mem hby.mem)); all_goals (apply ol_as; exact rfl; exact rfl); all_goals (apply ol_nil))
      | (apply cw_cond_true; exact rfl; (first | exact rfl | assumption))
      | (apply cw_cond_false; exact rfl; (first | exact rfl | assumption))
      | apply cw_skip
      | apply cw_ret
      | apply cw_block
      | apply cw_exit
    refine ends [] (RVal.tmp rfl RVal.nil) Pick.nil ?_
    rfl
  repeat' first
    | apply cw_seq
    | (refine cw_region_id 0 ?_; (apply ol_as; exact rfl; exact rfl); (apply ol_nil))
    | (refine cw_region_id 1 ?_; (apply ol_mv; exact rfl; exact rfl); (apply ol_mv; exact rfl; exact rfl); (apply ol_val; exact rfl; apply s_callv; exact rfl; exact gf_40; (intro w' hw'; exact h1 w')); (apply ol_as; exact rfl; exact rfl); (apply ol_nil))
    | (apply cw_cond_true; exact rfl; (first | exact rfl | assumption))
    | (apply cw_cond_false; exact rfl; (first | exact rfl | assumption))
    | apply cw_skip
    | apply cw_ret
    | apply cw_block
    | apply cw_exit
  refine ends [] (RVal.tmp rfl RVal.nil) Pick.nil ?_
  rfl

theorem rcompare_spec (w : World) {x y : List Int} (hx : x.length = 32) (hy : y.length = 32) :
    FnC Tryd.prog 26 [.agg (flat (eK .u8) x).toArray, .agg (flat (eK .u8) y).toArray] w (fun v _ => v = .int .i64 (cmpI x y)) := by
  refine enterF (M := View.of w) Tryd.func26 rfl rfl rfl rfl (View.le.refl _) ?_
  repeat' first
    | apply cw_seq
    | (refine cw_region_id 0 ?_; (apply ol_val; exact rfl; first | (apply s_boxN; exact rfl; intro bk2) | (apply s_box1; exact rfl; exact rfl; intro bk2)); (apply ol_val; exact rfl; first | (apply s_boxN; exact rfl; intro bk3) | (apply s_box1; exact rfl; exact rfl; intro bk3)); (apply ol_as; exact rfl; exact rfl); (apply ol_nil))
    | (refine cw_region_id 1 ?_; (apply ol_as; exact rfl; exact rfl); (apply ol_nil))
    | (apply cw_cond_true; exact rfl; (first | exact rfl | assumption))
    | (apply cw_cond_false; exact rfl; (first | exact rfl | assumption))
    | apply cw_skip
    | apply cw_ret
    | apply cw_block
    | apply cw_exit
  refine cw_loopK (σ := Nat) [2, 3] (by (repeat (first | exact Keep.nil | (apply Keep.cons; exact rfl)))) (fun i => [(5, .int .i64 i)]) (fun _ => View.of w) (fun _ => [⟨some bk2, flat (eK .u8) x, 25⟩, ⟨some bk3, flat (eK .u8) y, 25⟩]) (fun i => i ≤ 32 ∧ cmpI x y = cmpI (x.drop i) (y.drop i)) (fun i => 32 - i) 0 (by (repeat (first | exact trivial | refine And.intro rfl ?_))) (View.le.refl _) (by (repeat (first | exact Pick.nil | (apply Pick.cons; (focus ((repeat (first | exact Spl.here | apply Spl.there)); done))) | exact Pick.refl))) ⟨by omega, rfl⟩ ?_
  rintro i ⟨hi, he⟩
  try dsimp only
  by_cases hi' : i < 32
  · rw [cmp_step (by omega) (by omega)] at he
    by_cases h1 : x.getD i 0 < y.getD i 0
    · rw [if_pos h1] at he
      repeat' first
        | apply cw_seq
        | (refine cw_region_id 2 ?_; (apply ol_mv; exact rfl; exact rfl); (apply ol_val; exact rfl; apply stp_cmp; apply s_lss; exact rfl; exact rfl; all_goals (intro hc7; try (exfalso; (first | exact hc7 rfl | omega)))); all_goals (apply ol_nil))
        | (refine cw_draw (id := 4) 7 (.mv 0 (.mv 1 (.mv 2 (.mv 3 (.mv 4 (.mv 5 (.mv 6 (PT.nil)))))))) mixed (by kernel_rfl) ?_; (apply od_mv; exact rfl; exact rfl; apply s_move; exact rfl); (apply od_mv; exact rfl; exact rfl; first | (apply s_indexAK; exact rfl; exact rfl; exact ar_25; exact sz_5; omega) | (apply s_indexAO; exact rfl; exact rfl; exact ar_25; exact sz_5; omega)); (apply od_mv; exact rfl; exact rfl; apply s_load1; exact rfl; exact rfl; (first | (apply RdN.own; (focus ((repeat constructor); done)); (first | exact GetN.cons rfl GetN.nil | (apply getN_ints_app; (first | omega | (simp; omega) | (simp; done))) | (apply getN_ints; (first | omega | (simp; omega) | (simp; done))))) | (apply RdN.own; (repeat (first | exact Has.here | apply Has.there)); (apply getNK0; omega)))); (apply od_mv; exact rfl; exact rfl; apply s_move; exact rfl); (apply od_mv; exact rfl; exact rfl; first | (apply s_indexAK; exact rfl; exact rfl; exact ar_25; exact sz_5; omega) | (apply s_indexAO; exact rfl; exact rfl; exact ar_25; exact sz_5; omega)); (apply od_mv; exact rfl; exact rfl; apply s_load1; exact rfl; exact rfl; (first | (apply RdN.own; (focus ((repeat constructor); done)); (first | exact GetN.cons rfl GetN.nil | (apply getN_ints_app; (first | omega | (simp; omega) | (simp; done))) | (apply getN_ints; (first | omega | (simp; omega) | (simp; done))))) | (apply RdN.own; (repeat (first | exact Has.here | apply Has.there)); (apply getNK0; omega)))); (apply od_cmp; exact rfl; exact rfl; apply s_lss; exact rfl; exact rfl; all_goals (intro hc16; try (exfalso; (first | exact hc16 rfl | omega)))); all_goals (apply od_nil; (first | exact Wk.refl _ _ | (focus (apply Wk.mk; exact View.le.refl _; (repeat constructor); done)))); all_goals (apply ol_nil))
        | (refine cw_region_id 5 ?_; (apply ol_as; exact rfl; exact rfl); (apply ol_nil))
        | (refine cw_draw (id := 6) 7 (.mv 0 (.mv 1 (.mv 2 (.mv 3 (.mv 4 (.mv 5 (.mv 6 (PT.nil)))))))) mixed (by kernel_rfl) ?_; (apply od_mv; exact rfl; exact rfl; apply s_move; exact rfl); (apply od_mv; exact rfl; exact rfl; first | (apply s_indexAK; exact rfl; exact rfl; exact ar_25; exact sz_5; omega) | (apply s_indexAO; exact rfl; exact rfl; exact ar_25; exact sz_5; omega)); (apply od_mv; exact rfl; exact rfl; apply s_load1; exact rfl; exact rfl; (first | (apply RdN.own; (focus ((repeat constructor); done)); (first | exact GetN.cons rfl GetN.nil | (apply getN_ints_app; (first | omega | (simp; omega) | (simp; done))) | (apply getN_ints; (first | omega | (simp; omega) | (simp; done))))) | (apply RdN.own; (repeat (first | exact Has.here | apply Has.there)); (apply getNK0; omega)))); (apply od_mv; exact rfl; exact rfl; apply s_move; exact rfl); (apply od_mv; exact rfl; exact rfl; first | (apply s_indexAK; exact rfl; exact rfl; exact ar_25; exact sz_5; omega) | (apply s_indexAO; exact rfl; exact rfl; exact ar_25; exact sz_5; omega)); (apply od_mv; exact rfl; exact rfl; apply s_load1; exact rfl; exact rfl; (first | (apply RdN.own; (focus ((repeat constructor); done)); (first | exact GetN.cons rfl GetN.nil | (apply getN_ints_app; (first | omega | (simp; omega) | (simp; done))) | (apply getN_ints; (first | omega | (simp; omega) | (simp; done))))) | (apply RdN.own; (repeat (first | exact Has.here | apply Has.there)); (apply getNK0; omega)))); (apply od_cmp; exact rfl; exact rfl; apply s_gtr; exact rfl; exact rfl; all_goals (intro hc23; try (exfalso; (first | exact hc23 rfl | omega)))); all_goals (apply od_nil; (first | exact Wk.refl _ _ | (focus (apply Wk.mk; exact View.le.refl _; (repeat constructor); done)))); all_goals (apply ol_nil))
        | (refine cw_region_id 7 ?_; (apply ol_as; exact rfl; exact rfl); (apply ol_nil))
        | (refine cw_region_id 3 ?_; (apply ol_mv; exact rfl; exact rfl); (apply ol_val; exact rfl; apply stp_pur; apply s_add64; exact rfl; exact rfl; omega); (apply ol_as; exact rfl; exact rfl); (apply ol_nil))
        | (refine cw_region_id 8 ?_; (apply ol_as; exact rfl; exact rfl); (apply ol_nil))
        | (apply cw_cond_true; exact rfl; (first | exact rfl | assumption))
        | (apply cw_cond_false; exact rfl; (first | exact rfl | assumption))
        | apply cw_skip
        | apply cw_ret
        | apply cw_block
        | apply cw_exit
      all_goals (refine ends [] (RVal.tmp rfl RVal.nil) Pick.nil ?_; rw [he]; rfl)
    · rw [if_neg h1] at he
      by_cases h2 : y.getD i 0 < x.getD i 0
      · rw [if_pos h2] at he
        repeat' first
          | apply cw_seq
          | (refine cw_region_id 2 ?_; (apply ol_mv; exact rfl; exact rfl); (apply ol_val; exact rfl; apply stp_cmp; apply s_lss; exact rfl; exact rfl; all_goals (intro hc7; try (exfalso; (first | exact hc7 rfl | omega)))); all_goals (apply ol_nil))
          | (refine cw_draw (id := 4) 7 (.mv 0 (.mv 1 (.mv 2 (.mv 3 (.mv 4 (.mv 5 (.mv 6 (PT.nil)))))))) mixed (by kernel_rfl) ?_; (apply od_mv; exact rfl; exact rfl; apply s_move; exact rfl); (apply od_mv; exact rfl; exact rfl; first | (apply s_indexAK; exact rfl; exact rfl; exact ar_25; exact sz_5; omega) | (apply s_indexAO; exact rfl; exact rfl; exact ar_25; exact sz_5; omega)); (apply od_mv; exact rfl; exact rfl; apply s_load1; exact rfl; exact rfl; (first | (apply RdN.own; (focus ((repeat constructor); done)); (first | exact GetN.cons rfl GetN.nil | (apply getN_ints_app; (first | omega | (simp; omega) | (simp; done))) | (apply getN_ints; (first | omega | (simp; omega) | (simp; done))))) | (apply RdN.own; (repeat (first | exact Has.here | apply Has.there)); (apply getNK0; omega)))); (apply od_mv; exact rfl; exact rfl; apply s_move; exact rfl); (apply od_mv; exact rfl; exact rfl; first | (apply s_indexAK; exact rfl; exact rfl; exact ar_25; exact sz_5; omega) | (apply s_indexAO; exact rfl; exact rfl; exact ar_25; exact sz_5; omega)); (apply od_mv; exact rfl; exact rfl; apply s_load1; exact rfl; exact rfl; (first | (apply RdN.own; (focus ((repeat constructor); done)); (first | exact GetN.cons rfl GetN.nil | (apply getN_ints_app; (first | omega | (simp; omega) | (simp; done))) | (apply getN_ints; (first | omega | (simp; omega) | (simp; done))))) | (apply RdN.own; (repeat (first | exact Has.here | apply Has.there)); (apply getNK0; omega)))); (apply od_cmp; exact rfl; exact rfl; apply s_lss; exact rfl; exact rfl; all_goals (intro hc16; try (exfalso; (first | exact hc16 rfl | omega)))); all_goals (apply od_nil; (first | exact Wk.refl _ _ | (focus (apply Wk.mk; exact View.le.refl _; (repeat constructor); done)))); all_goals (apply ol_nil))
          | (refine cw_region_id 5 ?_; (apply ol_as; exact rfl; exact rfl); (apply ol_nil))
          | (refine cw_draw (id := 6) 7 (.mv 0 (.mv 1 (.mv 2 (.mv 3 (.mv 4 (.mv 5 (.mv 6 (PT.nil)))))))) mixed (by kernel_rfl) ?_; (apply od_mv; exact rfl; exact rfl; apply s_move; exact rfl); (apply od_mv; exact rfl; exact rfl; first | (apply s_indexAK; exact rfl; exact rfl; exact ar_25; exact sz_5; omega) | (apply s_indexAO; exact rfl; exact rfl; exact ar_25; exact sz_5; omega)); (apply od_mv; exact rfl; exact rfl; apply s_load1; exact rfl; exact rfl; (first | (apply RdN.own; (focus ((repeat constructor); done)); (first | exact GetN.cons rfl GetN.nil | (apply getN_ints_app; (first | omega | (simp; omega) | (simp; done))) | (apply getN_ints; (first | omega | (simp; omega) | (simp; done))))) | (apply RdN.own; (repeat (first | exact Has.here | apply Has.there)); (apply getNK0; omega)))); (apply od_mv; exact rfl; exact rfl; apply s_move; exact rfl); (apply od_mv; exact rfl; exact rfl; first | (apply s_indexAK; exact rfl; exact rfl; exact ar_25; exact sz_5; omega) | (apply s_indexAO; exact rfl; exact rfl; exact ar_25; exact sz_5; omega)); (apply od_mv; exact rfl; exact rfl; apply s_load1; exact rfl; exact rfl; (first | (apply RdN.own; (focus ((repeat constructor); done)); (first | exact GetN.cons rfl GetN.nil | (apply getN_ints_app; (first | omega | (simp; omega) | (simp; done))) | (apply getN_ints; (first | omega | (simp; omega) | (simp; done))))) | (apply RdN.own; (repeat (first | exact Has.here | apply Has.there)); (apply getNK0; omega)))); (apply od_cmp; exact rfl; exact rfl; apply s_gtr; exact rfl; exact rfl; all_goals (intro hc23; try (exfalso; (first | exact hc23 rfl | omega)))); all_goals (apply od_nil; (first | exact Wk.refl _ _ | (focus (apply Wk.mk; exact View.le.refl _; (repeat constructor); done)))); all_goals (apply ol_nil))
          | (refine cw_region_id 7 ?_; (apply ol_as; exact rfl; exact rfl); (apply ol_nil))
          | (refine cw_region_id 3 ?_; (apply ol_mv; exact rfl; exact rfl); (apply ol_val; exact rfl; apply stp_pur; apply s_add64; exact rfl; exact rfl; omega); (apply ol_as; exact rfl; exact rfl); (apply ol_nil))
          | (refine cw_region_id 8 ?_; (apply ol_as; exact rfl; exact rfl); (apply ol_nil))
          | (apply cw_cond_true; exact rfl; (first | exact rfl | assumption))
          | (apply cw_cond_false; exact rfl; (first | exact rfl | assumption))
          | apply cw_skip
          | apply cw_ret
          | apply cw_block
          | apply cw_exit
        all_goals (refine ends [] (RVal.tmp rfl RVal.nil) Pick.nil ?_; rw [he]; rfl)
      · rw [if_neg h2] at he
        repeat' first
          | apply cw_seq
          | (refine cw_region_id 2 ?_; (apply ol_mv; exact rfl; exact rfl); (apply ol_val; exact rfl; apply stp_cmp; apply s_lss; exact rfl; exact rfl; all_goals (intro hc7; try (exfalso; (first | exact hc7 rfl | omega)))); all_goals (apply ol_nil))
          | (refine cw_draw (id := 4) 7 (.mv 0 (.mv 1 (.mv 2 (.mv 3 (.mv 4 (.mv 5 (.mv 6 (PT.nil)))))))) mixed (by kernel_rfl) ?_; (apply od_mv; exact rfl; exact rfl; apply s_move; exact rfl); (apply od_mv; exact rfl; exact rfl; first | (apply s_indexAK; exact rfl; exact rfl; exact ar_25; exact sz_5; omega) | (apply s_indexAO; exact rfl; exact rfl; exact ar_25; exact sz_5; omega)); (apply od_mv; exact rfl; exact rfl; apply s_load1; exact rfl; exact rfl; (first | (apply RdN.own; (focus ((repeat constructor); done)); (first | exact GetN.cons rfl GetN.nil | (apply getN_ints_app; (first | omega | (simp; omega) | (simp; done))) | (apply getN_ints; (first | omega | (simp; omega) | (simp; done))))) | (apply RdN.own; (repeat (first | exact Has.here | apply Has.there)); (apply getNK0; omega)))); (apply od_mv; exact rfl; exact rfl; apply s_move; exact rfl); (apply od_mv; exact rfl; exact rfl; first | (apply s_indexAK; exact rfl; exact rfl; exact ar_25; exact sz_5; omega) | (apply s_indexAO; exact rfl; exact rfl; exact ar_25; exact sz_5; omega)); (apply od_mv; exact rfl; exact rfl; apply s_load1; exact rfl; exact rfl; (first | (apply RdN.own; (focus ((repeat constructor); done)); (first | exact GetN.cons rfl GetN.nil | (apply getN_ints_app; (first | omega | (simp; omega) | (simp; done))) | (apply getN_ints; (first | omega | (simp; omega) | (simp; done))))) | (apply RdN.own; (repeat (first | exact Has.here | apply Has.there)); (apply getNK0; omega)))); (apply od_cmp; exact rfl; exact rfl; apply s_lss; exact rfl; exact rfl; all_goals (intro hc16; try (exfalso; (first | exact hc16 rfl | omega)))); all_goals (apply od_nil; (first | exact Wk.refl _ _ | (focus (apply Wk.mk; exact View.le.refl _; (repeat constructor); done)))); all_goals (apply ol_nil))
          | (refine cw_region_id 5 ?_; (apply ol_as; exact rfl; exact rfl); (apply ol_nil))
          | (refine cw_draw (id := 6) 7 (.mv 0 (.mv 1 (.mv 2 (.mv 3 (.mv 4 (.mv 5 (.mv 6 (PT.nil)))))))) mixed (by kernel_rfl) ?_; (apply od_mv; exact rfl; exact rfl; apply s_move; exact rfl); (apply od_mv; exact rfl; exact rfl; first | (apply s_indexAK; exact rfl; exact rfl; exact ar_25; exact sz_5; omega) | (apply s_indexAO; exact rfl; exact rfl; exact ar_25; exact sz_5; omega)); (apply od_mv; exact rfl; exact rfl; apply s_load1; exact rfl; exact rfl; (first | (apply RdN.own; (focus ((repeat constructor); done)); (first | exact GetN.cons rfl GetN.nil | (apply getN_ints_app; (first | omega | (simp; omega) | (simp; done))) | (apply getN_ints; (first | omega | (simp; omega) | (simp; done))))) | (apply RdN.own; (repeat (first | exact Has.here | apply Has.there)); (apply getNK0; omega)))); (apply od_mv; exact rfl; exact rfl; apply s_move; exact rfl); (apply od_mv; exact rfl; exact rfl; first | (apply s_indexAK; exact rfl; exact rfl; exact ar_25; exact sz_5; omega) | (apply s_indexAO; exact rfl; exact rfl; exact ar_25; exact sz_5; omega)); (apply od_mv; exact rfl; exact rfl; apply s_load1; exact rfl; exact rfl; (first | (apply RdN.own; (focus ((repeat constructor); done)); (first | exact GetN.cons rfl GetN.nil | (apply getN_ints_app; (first | omega | (simp; omega) | (simp; done))) | (apply getN_ints; (first | omega | (simp; omega) | (simp; done))))) | (apply RdN.own; (repeat (first | exact Has.here | apply Has.there)); (apply getNK0; omega)))); (apply od_cmp; exact rfl; exact rfl; apply s_gtr; exact rfl; exact rfl; all_goals (intro hc23; try (exfalso; (first | exact hc23 rfl | omega)))); all_goals (apply od_nil; (first | exact Wk.refl _ _ | (focus (apply Wk.mk; exact View.le.refl _; (repeat constructor); done)))); all_goals (apply ol_nil))
          | (refine cw_region_id 7 ?_; (apply ol_as; exact rfl; exact rfl); (apply ol_nil))
          | (refine cw_region_id 3 ?_; (apply ol_mv; exact rfl; exact rfl); (apply ol_val; exact rfl; apply stp_pur; apply s_add64; exact rfl; exact rfl; omega); (apply ol_as; exact rfl; exact rfl); (apply ol_nil))
          | (refine cw_region_id 8 ?_; (apply ol_as; exact rfl; exact rfl); (apply ol_nil))
          | (apply cw_cond_true; exact rfl; (first | exact rfl | assumption))
          | (apply cw_cond_false; exact rfl; (first | exact rfl | assumption))
          | apply cw_skip
          | apply cw_ret
          | apply cw_block
          | apply cw_exit
        all_goals exact ⟨i + 1, ⟨by (repeat (first | exact trivial | refine And.intro rfl ?_)), View.le.refl _, by (repeat (first | exact Pick.nil | (apply Pick.cons; (focus ((repeat (first | exact Spl.here | apply Spl.there)); done))) | exact Pick.refl)), ⟨hi', he⟩, by omega⟩⟩
  · have : i = 32 := by omega
    subst this
    rw [List.drop_of_length_le (by omega), List.drop_of_length_le (by omega)] at he
    have e0 : cmpI [] [] = 0 := by unfold cmpI; rfl
    rw [e0] at he
    repeat' first
      | apply cw_seq
      | (refine cw_region_id 2 ?_; (apply ol_mv; exact rfl; exact rfl); (apply ol_val; exact rfl; apply stp_cmp; apply s_lss; exact rfl; exact rfl; all_goals (intro hc7; try (exfalso; (first | exact hc7 rfl | omega)))); all_goals (apply ol_nil))
      | (refine cw_draw (id := 4) 7 (.mv 0 (.mv 1 (.mv 2 (.mv 3 (.mv 4 (.mv 5 (.mv 6 (PT.nil)))))))) mixed (by kernel_rfl) ?_; (apply od_mv; exact rfl; exact rfl; apply s_move; exact rfl); (apply od_mv; exact rfl; exact rfl; first | (apply s_indexAK; exact rfl; exact rfl; exact ar_25; exact sz_5; omega) | (apply s_indexAO; exact rfl; exact rfl; exact ar_25; exact sz_5; omega)); (apply od_mv; exact rfl; exact rfl; apply s_load1; exact rfl; exact rfl; (apply RdN.own; (focus ((repeat constructor); done)); (first | exact GetN.cons rfl GetN.nil | (apply getN_ints_app; (first | omega | (simp; omega) | (simp; done))) | (apply getN_ints; (first | omega | (simp; omega) | (simp; done)))))); (apply od_mv; exact rfl; exact rfl; apply s_move; exact rfl); (apply od_mv; exact rfl; exact rfl; first | (apply s_indexAK; exact rfl; exact rfl; exact ar_25; exact sz_5; omega) | (apply s_indexAO; exact rfl; exact rfl; exact ar_25; exact sz_5; omega)); (apply od_mv; exact rfl; exact rfl; apply s_load1; exact rfl; exact rfl; (apply RdN.own; (focus ((repeat constructor); done)); (first | exact GetN.cons rfl GetN.nil | (apply getN_ints_app; (first | omega | (simp; omega) | (simp; done))) | (apply getN_ints; (first | omega | (simp; omega) | (simp; done)))))); (apply od_cmp; exact rfl; exact rfl; apply s_lss; exact rfl; exact rfl; all_goals (intro hc16; try (exfalso; (first | exact hc16 rfl | omega)))); all_goals (apply od_nil; (first | exact Wk.refl _ _ | (focus (apply Wk.mk; exact View.le.refl _; (repeat constructor); done)))); all_goals (apply ol_nil))
      | (refine cw_region_id 5 ?_; (apply ol_as; exact rfl; exact rfl); (apply ol_nil))
      | (refine cw_draw (id := 6) 7 (.mv 0 (.mv 1 (.mv 2 (.mv 3 (.mv 4 (.mv 5 (.mv 6 (PT.nil)))))))) mixed (by kernel_rfl) ?_; (apply od_mv; exact rfl; exact rfl; apply s_move; exact rfl); (apply od_mv; exact rfl; exact rfl; first | (apply s_indexAK; exact rfl; exact rfl; exact ar_25; exact sz_5; omega) | (apply s_indexAO; exact rfl; exact rfl; exact ar_25; exact sz_5; omega)); (apply od_mv; exact rfl; exact rfl; apply s_load1; exact rfl; exact rfl; (apply RdN.own; (focus ((repeat constructor); done)); (first | exact GetN.cons rfl GetN.nil | (apply getN_ints_app; (first | omega | (simp; omega) | (simp; done))) | (apply getN_ints; (first | omega | (simp; omega) | (simp; done)))))); (apply od_mv; exact rfl; exact rfl; apply s_move; exact rfl); (apply od_mv; exact rfl; exact rfl; first | (apply s_indexAK; exact rfl; exact rfl; exact ar_25; exact sz_5; omega) | (apply s_indexAO; exact rfl; exact rfl; exact ar_25; exact sz_5; omega)); (apply od_mv; exact rfl; exact rfl; apply s_load1; exact rfl; exact rfl; (apply RdN.own; (focus ((repeat constructor); done)); (first | exact GetN.cons rfl GetN.nil | (apply getN_ints_app; (first | omega | (simp; omega) | (simp; done))) | (apply getN_ints; (first | omega | (simp; omega) | (simp; done)))))); (apply od_cmp; exact rfl; exact rfl; apply s_gtr; exact rfl; exact rfl; all_goals (intro hc23; try (exfalso; (first | exact hc23 rfl | omega)))); all_goals (apply od_nil; (first | exact Wk.refl _ _ | (focus (apply Wk.mk; exact View.le.refl _; (repeat constructor); done)))); all_goals (apply ol_nil))
      | (refine cw_region_id 7 ?_; (apply ol_as; exact rfl; exact rfl); (apply ol_nil))
      | (refine cw_region_id 3 ?_; (apply ol_mv; exact rfl; exact rfl); (apply ol_val; exact rfl; apply stp_pur; apply s_add64; exact rfl; exact rfl; omega); (apply ol_as; exact rfl; exact rfl); (apply ol_nil))
      | (refine cw_region_id 8 ?_; (apply ol_as; exact rfl; exact rfl); (apply ol_nil))
      | (apply cw_cond_true; exact rfl; (first | exact rfl | assumption))
      | (apply cw_cond_false; exact rfl; (first | exact rfl | assumption))
      | apply cw_skip
      | apply cw_ret
      | apply cw_block
      | apply cw_exit
    refine ends [] (RVal.tmp rfl RVal.nil) Pick.nil ?_
    rw [he]; rfl

theorem rhex_spec (w : World) {h : List Int} (hl : h.length = 32) (hb : isB h) :
    FnC Tryd.prog 25 [.agg (flat (eK .u8) h).toArray] w (fun v _ => v = .string (strOf (hexN h 32))) := by
  refine enterF (M := View.of w) Tryd.func25 rfl rfl rfl rfl (View.le.refl _) ?_
  refine cw_none 5 ?_
  repeat' first
    | apply cw_seq
    | (refine cw_region_id 0 ?_; (apply ol_val; exact rfl; first | (apply s_boxN; exact rfl; intro bk1) | (apply s_box1; exact rfl; exact rfl; intro bk1)); (apply ol_as; exact rfl; exact rfl); (apply ol_nil))
    | (refine cw_region_id 1 ?_; (apply ol_as; exact rfl; exact rfl); (apply ol_nil))
    | (refine cw_region_id 2 ?_; (apply ol_as; exact rfl; exact rfl); (apply ol_nil))
    | (refine cw_region_id 3 ?_; (apply ol_as; exact rfl; exact rfl); (apply ol_nil))
    | (apply cw_cond_true; exact rfl; (first | exact rfl | assumption))
    | (apply cw_cond_false; exact rfl; (first | exact rfl | assumption))
    | apply cw_skip
    | apply cw_ret
    | apply cw_block
    | apply cw_exit
  refine cw_loopK (σ := RSt) [1, 3] (by (repeat (first | exact Keep.nil | (apply Keep.cons; exact rfl)))) (fun s => [(4, .slice (base s.r none) (2 * s.k) s.c), (5, .int .i64 s.k)]) (fun _ => View.of w) (fun s => [⟨some bk1, flat (eK .u8) h, 25⟩, ⟨s.r, flat (eK .u8) (hexN h s.k) ++ s.sp, 5⟩]) (fun s => s.k ≤ 32 ∧ SO s.r (2 * s.k) s.c (flat (eK .u8) (hexN h s.k)) s.sp 1) (fun s => 32 - s.k) ⟨0, none, 0, []⟩ (by (repeat (first | exact trivial | refine And.intro rfl ?_))) (View.le.refl _) (by unfold hexN; (repeat (first | exact Pick.nil | (apply Pick.cons; (focus ((repeat (first | exact Spl.here | apply Spl.there)); done))) | exact Pick.refl))) ⟨by dsimp only; omega, by unfold hexN; exact SO.nil 1⟩ ?_
  rintro ⟨k, r, c, sp⟩ ⟨hk, so⟩
  dsimp only at hk so
  dsimp only
  have hlen := hexN_length h k
  by_cases hk' : k < 32
  · have hg := hb k
    have hst : flat (eK .u8) (hexN h (k + 1)) = flat (eK .u8) (hexN h k) ++ [.int .u8 (DG.getD (h.getD k 0 / 16).toNat 0), .int .u8 (DG.getD (h.getD k 0 % 16).toNat 0)] := by
      rw [show hexN h (k + 1) = hexN h k ++ [DG.getD (h.getD k 0 / 16).toNat 0] ++ [DG.getD (h.getD k 0 % 16).toNat 0] by simp only [hexN], List.append_assoc, flat_append]
      rfl
    have d1 := dg (i := h.getD k 0 / 16) (by omega)
    have d2 := dg (i := h.getD k 0 % 16) (by omega)
    generalize hexN h k = X at *
    repeat' first
      | apply cw_seq
      | (refine cw_region_id 4 ?_; (apply ol_mv; exact rfl; exact rfl); (apply ol_val; exact rfl; apply stp_cmp; apply s_lss; exact rfl; exact rfl; all_goals (intro hc7; try (exfalso; (first | exact hc7 rfl | omega)))); all_goals (apply ol_nil))
      | (refine cw_draw (id := 6) 14 (.mv 0 (.mv 1 (.mv 2 (.mv 3 (.mv 4 (.mv 5 (.mv 6 (.mv 7 (.mv 8 (.mv 9 (.mv 10 (.mv 11 (.mv 12 (.fx 13 (PT.nil))))))))))))))) mixed (by kernel_rfl) ?_; (apply od_mv; exact rfl; exact rfl; apply s_move; exact rfl); (apply od_mv; exact rfl; exact rfl; apply s_move; exact rfl); (apply od_mv; exact rfl; exact rfl; apply s_move; exact rfl); (apply od_mv; exact rfl; exact rfl; first | (apply s_indexAK; exact rfl; exact rfl; exact ar_25; exact sz_5; omega) | (apply s_indexAO; exact rfl; exact rfl; exact ar_25; exact sz_5; omega)); (apply od_mv; exact rfl; exact rfl; apply s_load1; exact rfl; exact rfl; (first | (apply RdN.own; (focus ((repeat constructor); done)); (first | exact GetN.cons rfl GetN.nil | (apply getN_ints_app; (first | omega | (simp; omega) | (simp; done))) | (apply getN_ints; (first | omega | (simp; omega) | (simp; done))))) | (apply RdN.own; (repeat (first | exact Has.here | apply Has.there)); (apply getNK0; omega)))); (apply od_mv; exact rfl; exact rfl; apply s_quoN; exact rfl; exact rfl; (first | omega | (dsimp only [highK]; omega))); (apply od_mv; exact rfl; exact rfl; apply s_indexS; exact rfl; exact rfl; exact us_9; (first | exact (show 0 ≤ h.getD k 0 / 16 ∧ h.getD k 0 / 16 < 16 by omega) | exact (show 0 ≤ h.getD k 0 % 16 ∧ h.getD k 0 % 16 < 16 by omega)); (first | exact d1 | exact d2)); (apply od_mv; exact rfl; exact rfl; apply s_move; exact rfl); (apply od_mv; exact rfl; exact rfl; apply s_move; exact rfl); (apply od_mv; exact rfl; exact rfl; first | (apply s_indexAK; exact rfl; exact rfl; exact ar_25; exact sz_5; omega) | (apply s_indexAO; exact rfl; exact rfl; exact ar_25; exact sz_5; omega)); (apply od_mv; exact rfl; exact rfl; apply s_load1; exact rfl; exact rfl; (first | (apply RdN.own; (focus ((repeat constructor); done)); (first | exact GetN.cons rfl GetN.nil | (apply getN_ints_app; (first | omega | (simp; omega) | (simp; done))) | (apply getN_ints; (first | omega | (simp; omega) | (simp; done))))) | (apply RdN.own; (repeat (first | exact Has.here | apply Has.there)); (apply getNK0; omega)))); (apply od_mv; exact rfl; exact rfl; first | (apply s_rem64; exact rfl; exact rfl; omega) | (apply s_remT; exact rfl; exact rfl; omega)); (apply od_mv; exact rfl; exact rfl; apply s_indexS; exact rfl; exact rfl; exact us_9; (first | exact (show 0 ≤ h.getD k 0 / 16 ∧ h.getD k 0 / 16 < 16 by omega) | exact (show 0 ≤ h.getD k 0 % 16 ∧ h.getD k 0 % 16 < 16 by omega)); (first | exact d1 | exact d2)); (apply od_fx; (first | exact Wk.refl _ _ | (focus (apply Wk.mk; exact View.le.refl _; (repeat constructor); done))); (apply fx_val; exact rfl; exact rfl; apply s_buildSl; exact rfl; exact el_22; exact sz_5; exact zb_5; (focus ((repeat constructor); done)); exact rfl; exact rfl; (exact Nat.le_of_ble_eq_true rfl); (focus ((repeat constructor); done)); (focus ((repeat (first | exact rfl | constructor)); done)); intro bk23)); (apply od_nil; (first | exact Wk.refl _ _ | (focus (apply Wk.mk; exact View.le.refl _; (repeat constructor); done)))); (apply ol_val; exact rfl; first | (apply s_append_e; exact rfl; exact rfl; (focus ((repeat constructor); done)); exact el_22; exact sz_5; exact zb_5; exact rfl; exact by_5; (first | exact (fun _ => rfl)); (first | (apply RdN.own; (focus ((repeat constructor); done)); (focus ((repeat (first | exact rfl | constructor)); done)))); (first | exact rfl); (first | omega | (simp; omega) | (simp; done)); (first | omega | (simp; omega) | (simp; done)); intro rk24 sk24 ck24 ok24) | (apply s_append_r; exact rfl; exact rfl; (focus ((repeat constructor); done)); (first | exact rfl | exact (List.append_nil _).symm); exact el_22; exact sz_5; exact zb_5; exact rfl; exact by_5; (first | exact SO.nil _ | assumption | (exact ⟨by simp, by simp, Nat.le_refl _, by simp⟩)); (first | exact (fun _ => rfl)); (first | (apply RdN.own; (focus ((repeat constructor); done)); (focus ((repeat (first | exact rfl | constructor)); done)))); (first | exact rfl); (first | omega | (simp; omega) | (simp; done)); (first | omega | (simp; omega) | (simp; done)); intro rk24 sk24 ck24 ok24) | (apply s_append_b; exact rfl; exact rfl; (focus ((repeat constructor); done)); (first | exact rfl | exact (List.append_nil _).symm); exact el_22; exact sz_5; exact zb_5; exact rfl; exact by_5; (first | exact SO.nil _ | assumption | (exact ⟨by simp, by simp, Nat.le_refl _, by simp⟩)); (first | exact (fun _ => rfl)); (first | (apply RdN.own; (focus ((repeat constructor); done)); (focus ((repeat (first | exact rfl | constructor)); done)))); (first | exact rfl); (first | omega | (simp; omega) | (simp; done)); (first | omega | (simp; omega) | (simp; done)); intro rk24 sk24 ck24 ok24) | (apply s_append_n; exact rfl; exact rfl; (focus ((repeat constructor); done)); exact el_22; exact sz_5; exact zb_5; exact rfl; exact by_5; (first | exact (fun _ => rfl)); (first | (apply RdN.own; (focus ((repeat constructor); done)); (focus ((repeat (first | exact rfl | constructor)); done)))); (first | exact rfl); (first | omega | (simp; omega) | (simp; done)); (first | omega | (simp; omega) | (simp; done)); intro rk24 sk24 ck24 ok24)); (apply ol_as; exact rfl; exact rfl); (apply ol_nil))
      | (refine cw_region_id 5 ?_; (apply ol_mv; exact rfl; exact rfl); (apply ol_val; exact rfl; apply stp_pur; apply s_add64; exact rfl; exact rfl; omega); (apply ol_as; exact rfl; exact rfl); (apply ol_nil))
      | (refine cw_region_id 7 ?_; (apply ol_mv; exact rfl; exact rfl))
      | (apply cw_cond_true; exact rfl; (first | exact rfl | assumption))
      | (apply cw_cond_false; exact rfl; (first | exact rfl | assumption))
      | apply cw_skip
      | apply cw_ret
      | apply cw_block
      | apply cw_exit
    refine ⟨⟨k + 1, rk24, ck24, sk24⟩, ⟨by (repeat (first | exact trivial | refine And.intro rfl ?_)), View.le.refl _, ?_, ⟨hk', ?_⟩, by dsimp only; omega⟩⟩
    · dsimp only
      rw [hst]
      (repeat (first | exact Pick.nil | (apply Pick.cons; (focus ((repeat (first | exact Spl.here | apply Spl.there)); done))) | exact Pick.refl))
    · dsimp only
      rw [hst]
      exact ok24
  · have : k = 32 := by omega
    subst this
    have hB := hexN_B h 32
    obtain ⟨q, rfl⟩ : ∃ q, r = some q := ⟨_, some_ref so (by omega)⟩
    generalize hexN h 32 = X at *
    repeat' first
      | apply cw_seq
      | (refine cw_region_id 4 ?_; (apply ol_mv; exact rfl; exact rfl); (apply ol_val; exact rfl; apply stp_cmp; apply s_lss; exact rfl; exact rfl; all_goals (intro hc7; try (exfalso; (first | exact hc7 rfl | omega)))); all_goals (apply ol_nil))
      | (refine cw_draw (id := 6) 14 (.mv 0 (.mv 1 (.mv 2 (.mv 3 (.mv 4 (.mv 5 (.mv 6 (.mv 7 (.mv 8 (.mv 9 (.mv 10 (.mv 11 (.mv 12 (.fx 13 (PT.nil))))))))))))))) mixed (by kernel_rfl) ?_; (apply od_mv; exact rfl; exact rfl; apply s_move; exact rfl); (apply od_mv; exact rfl; exact rfl; apply s_move; exact rfl); (apply od_mv; exact rfl; exact rfl; apply s_move; exact rfl); (apply od_mv; exact rfl; exact rfl; first | (apply s_indexAK; exact rfl; exact rfl; exact ar_25; exact sz_5; omega) | (apply s_indexAO; exact rfl; exact rfl; exact ar_25; exact sz_5; omega)); (apply od_mv; exact rfl; exact rfl; apply s_load1; exact rfl; exact rfl; (apply RdN.own; (focus ((repeat constructor); done)); (first | exact GetN.cons rfl GetN.nil | (apply getN_ints_app; (first | omega | (simp; omega) | (simp; done))) | (apply getN_ints; (first | omega | (simp; omega) | (simp; done)))))); (apply od_mv; exact rfl; exact rfl; apply s_quoN; exact rfl; exact rfl; (first | omega | (dsimp only [highK]; omega))))
      | (refine cw_region_id 5 ?_; (apply ol_mv; exact rfl; exact rfl); (apply ol_val; exact rfl; apply stp_pur; apply s_add64; exact rfl; exact rfl; omega); (apply ol_as; exact rfl; exact rfl); (apply ol_nil))
      | (refine cw_region_id 7 ?_; (apply ol_mv; exact rfl; exact rfl); (apply ol_val; exact rfl; apply stp_pur; apply s_convBS; exact rfl; exact el_22; exact tdInt_eq ti_5; exact us_9; (intro _; exact rfl); exact hlen; (apply RdN.own; (repeat (first | exact Has.here | apply Has.there)); exact getNK_n hlen)); (apply ol_as; exact rfl; exact rfl); (apply ol_nil))
      | (apply cw_cond_true; exact rfl; (first | exact rfl | assumption))
      | (apply cw_cond_false; exact rfl; (first | exact rfl | assumption))
      | apply cw_skip
      | apply cw_ret
      | apply cw_block
      | apply cw_exit
    refine ends [] (RVal.tmp rfl RVal.nil) Pick.nil ?_
    rfl
end Go.Proofs.YthhhleplbmpakaaDoor
