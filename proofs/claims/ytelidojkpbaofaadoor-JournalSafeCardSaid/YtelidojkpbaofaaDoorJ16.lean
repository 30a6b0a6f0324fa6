/-
  The law JournalRewrites; operations on a journal of ours.
-/
import Derived.Test.YtelidojkpbaofaaDoorJ15
namespace Go.Proofs.YtelidojkpbaofaaDoor
set_option maxRecDepth 20000
set_option linter.unusedSimpArgs false
set_option linter.unusedVariables false
open Go Go.Fw
attribute [local irreducible] CW OL OD FX Stp FnC FnV Ret sha strOf be8 be4 frB num4 appJ syncJ crashJ readJ framesB wrN wrA rewS
set_option maxHeartbeats 800000
theorem short_yes {M : View} {w : World} (hM : View.le M (View.of w)) {R : List (Sl Int)} {n c : Nat} (hn : R.length = n) {A : Option Addr} {b o : Nat} (s : SlA M Sl.enc 1 A R b o) (hs : shortP R) :
    FnC Tryd.prog 26 [.slice A n c] w (fun v _ => v = .bool true) :=
  FnC.mono (short_spec hM hn s) fun v _ h => by
    rcases h with ⟨h, _⟩ | ⟨_, h⟩
    · exact h
    · exact absurd hs h
theorem short_no {M : View} {w : World} (hM : View.le M (View.of w)) {R : List (Sl Int)} {n c : Nat} (hn : R.length = n) {A : Option Addr} {b o : Nat} (s : SlA M Sl.enc 1 A R b o) (hs : ¬ shortP R) :
    FnC Tryd.prog 26 [.slice A n c] w (fun v _ => v = .bool false) :=
  FnC.mono (short_spec hM hn s) fun v _ h => by
    rcases h with ⟨_, h⟩ | ⟨h, _⟩
    · exact absurd h hs
    · exact h
/-- Rows of bytes in a view. -/
def RowsIn (M : View) (R : List (Sl Int)) : Prop := ∀ x ∈ R, SlA M (eK .u8) 1 x.a x.xs x.b x.o ∧ isB x.xs
theorem RowsIn.mono {M M' : View} {R : List (Sl Int)} (h : RowsIn M R) (hM : View.le M M') : RowsIn M' R := fun x hx => ⟨(h x hx).1.mono hM, (h x hx).2⟩
theorem japp_own {M : View} {w : World} (hM : View.le M (View.of w)) (hL : Laid M) {P : List Int} {du af : Int} {n m c cb : Nat} (hn : P.length = n) {r : Option Nat} {A ab : Option Addr} {sp : List Value} (ho : OB.ok ⟨r, flat (eK .u8) P ++ sp, 5⟩ w) (hr : r = none → P = []) {b : List Int} {bb oo : Nat} (hm : b.length = m) (bX : isB b) (sX : SlA M (eK .u8) 1 ab b bb oo) :
    FnC Tryd.prog 12 [.agg [.slice (base r A) n c, .int .i64 du, .int .i64 af].toArray, .slice ab m cb] w (JRE (appJ ⟨P, du, af⟩ b)) :=
  japp_spec (j := ⟨P, du, af⟩) (View.le.refl _) (hL.mono hM) hn (SlA.ownK ho hr) hm bX (sX.mono hM)
theorem jread_own {M : View} {w : World} (hM : View.le M (View.of w)) (hL : Laid M) {P : List Int} {du af : Int} {n c : Nat} (hn : P.length = n) (hnc : n ≤ c) (hb : isB P) {r : Option Nat} {A : Option Addr} {sp : List Value} (ho : OB.ok ⟨r, flat (eK .u8) P ++ sp, 5⟩ w) (hr : r = none → P = []) :
    FnV Tryd.prog 20 [.agg [.slice (base r A) n c, .int .i64 du, .int .i64 af].toArray] w (RowsR (readJ ⟨P, du, af⟩)) :=
  jread_spec (j := ⟨P, du, af⟩) (View.le.refl _) (hL.mono hM) hn hnc hb (SlA.ownK ho hr)
theorem jrew_own {M : View} {w : World} (hM : View.le M (View.of w)) (hL : Laid M) {P : List Int} {du af : Int} {n m c cl : Nat} (hn : P.length = n) {r : Option Nat} {A A' : Option Addr} {sp : List Value} {b o : Nat} (ho : OB.ok ⟨r, flat (eK .u8) P ++ sp, 5⟩ w) (hr : r = none → P = []) {R : List (Sl Int)} (hm : R.length = m) (sR : SlA (View.of w) Sl.enc 1 A' R b o) (hR : RowsIn M R) (hs : shortP R) :
    FnC Tryd.prog 27 [.agg [.slice (base r A) n c, .int .i64 du, .int .i64 af].toArray, .slice A' m cl] w (JRE (rewS ⟨P, du, af⟩ (R.map Sl.xs))) :=
  jrew_spec (j := ⟨P, du, af⟩) (View.le.refl _) (hL.mono hM) hn (SlA.ownK ho hr) hm sR (hR.mono hM) hs

theorem law_rewrites {M : View} {w : World} (hM : View.le M (View.of w)) (hL : Laid M) {p : List Int} {n c m cl : Nat} {a A : Option Addr} {bj oj b o : Nat} (du af : Int) (hn : p.length = n) (s : SlA M (eK .u8) 1 a p bj oj) {R : List (Sl Int)} (hm : R.length = m) (sR : SlA M Sl.enc 1 A R b o) (hR : RowsIn M R) :
    FnC Tryd.prog 6 [.agg [.slice a n c, .int .i64 du, .int .i64 af].toArray, .slice A m cl] w (fun v _ => v = .bool true) := by
  refine enterF (M := M) Tryd.func6 rfl rfl rfl rfl hM ?_
  have kf := fun (w' : World) => few_spec w' (n := n) (c := c) (a := a) du af
  by_cases h4 : n ≤ 4000
  · rw [decide_eq_true h4] at kf
    by_cases hs : shortP R
    · have ks := fun (w' : World) (hw' : View.le M (View.of w')) => short_yes (c := cl) hw' hm sR hs
      have k1 := fun (w' : World) (hw' : View.le M (View.of w')) => jrew_spec (j := ⟨p, du, af⟩) (c := c) (cl := cl) hw' hL hn s hm sR hR hs
      have k2 := fun (w' : World) (hw' : View.le M (View.of w')) => rrew_spec (j := ⟨p, du, af⟩) (c := c) (cl := cl) hw' hn s hm sR hR hs
      dsimp only at k1 k2
      generalize rewS ⟨p, du, af⟩ (R.map Sl.xs) = S at *
      obtain ⟨⟨p1, du1, af1⟩, e1⟩ := S
      unfold JRE JR at k1 k2
      dsimp only at k1 k2
      repeat' first
        | apply cw_seq
        | (refine cw_region_id 0 ?_; (apply ol_val; exact rfl; first | (apply s_boxN; exact rfl; intro bk2) | (apply s_box1; exact rfl; exact rfl; intro bk2)); (apply ol_as; exact rfl; exact rfl); (apply ol_nil))
        | (refine cw_region_id 1 ?_; (apply ol_val; exact rfl; apply s_callv; exact rfl; exact gf_10; (intro w' hw'; exact awake_spec hw'.le hL)); (apply ol_val; exact rfl; apply stp_pur; first | (apply s_not_t; exact rfl; (first | exact rfl | assumption)) | (apply s_not_f; exact rfl; (first | exact rfl | assumption)) | (apply s_not; exact rfl)); (apply ol_nil))
        | (refine cw_region_id 2 ?_; (apply ol_as; exact rfl; exact rfl); (apply ol_nil))
        | (refine cw_region_id 3 ?_; (apply ol_ldN; exact rfl; exact rfl; exact rfl; exact sz_24; (apply RdN.own; (focus ((repeat constructor); done)); (focus ((repeat (first | exact rfl | constructor)); done)))); (apply ol_val; exact rfl; apply s_callv; exact rfl; exact gf_11; (intro w' hw'; exact kf w')); (apply ol_val; exact rfl; apply stp_pur; first | (apply s_not_t; exact rfl; (first | exact rfl | assumption)) | (apply s_not_f; exact rfl; (first | exact rfl | assumption)) | (apply s_not; exact rfl)); (apply ol_mv; exact rfl; exact rfl); (first | (apply ol_gskip; exact rfl; exact rfl; (first | exact rfl | assumption); exact rfl) | (apply ol_gval; exact rfl; exact rfl; exact rfl; (first | exact rfl | assumption); apply stp_pur; apply s_move; exact rfl)); (first | (apply ol_gskip; exact rfl; exact rfl; (first | exact rfl | assumption); exact rfl) | (apply ol_gval; exact rfl; exact rfl; exact rfl; (first | exact rfl | assumption); apply s_callv; exact rfl; exact gf_26; (intro w' hw'; exact ks w' hw'.le))); (first | (apply ol_gskip; exact rfl; exact rfl; (first | exact rfl | assumption); exact rfl) | (apply ol_gval; exact rfl; exact rfl; exact rfl; (first | exact rfl | assumption); apply stp_pur; first | (apply s_not_t; exact rfl; (first | exact rfl | assumption)) | (apply s_not_f; exact rfl; (first | exact rfl | assumption)) | (apply s_not; exact rfl))); (apply ol_val; exact rfl; apply stp_pur; first | (apply s_pick_t; exact rfl; (first | exact rfl | assumption); exact rfl) | (apply s_pick_f; exact rfl; (first | exact rfl | assumption); exact rfl)); (apply ol_nil))
        | (refine cw_region_id 4 ?_; (apply ol_as; exact rfl; exact rfl); (apply ol_nil))
        | (refine cw_region_id 5 ?_; (apply ol_ldN; exact rfl; exact rfl; exact rfl; exact sz_24; (apply RdN.own; (focus ((repeat constructor); done)); (focus ((repeat (first | exact rfl | constructor)); done)))); (apply ol_mv; exact rfl; exact rfl); (apply ol_val; exact rfl; apply s_call; exact rfl; exact gf_27; (intro w' hw'; exact k1 w' hw'.le); ((intro v new h; obtain ⟨u, rfl, r, A, cp, sp, rfl, rfl, hr, hcp⟩ := h))); (apply ol_mv; exact rfl; exact rfl); (apply ol_ex; exact rfl; exact rfl; exact rfl); (apply ol_ex; exact rfl; exact rfl; exact rfl); (apply ol_val; exact rfl; apply s_alloc; exact zb_24; (focus ((repeat constructor); done)); intro bk5); (apply ol_eff; apply s_storeN; exact rfl; exact rfl; exact sz_24; exact rfl; exact rfl; (focus ((repeat constructor); done)); (focus ((repeat constructor); done))); (apply ol_as; exact rfl; exact rfl); (apply ol_nil))
        | (refine cw_region_id 6 ?_; (apply ol_ldN; exact rfl; exact rfl; exact rfl; exact sz_24; (apply RdN.own; (focus ((repeat constructor); done)); (focus ((repeat (first | exact rfl | constructor)); done)))); (apply ol_mv; exact rfl; exact rfl); (apply ol_val; exact rfl; apply s_call; exact rfl; exact gf_28; (intro w' hw'; exact k2 w' hw'.le); ((intro v new h; obtain ⟨u, rfl, r, A, cp, sp, rfl, rfl, hr, hcp⟩ := h))); (apply ol_mv; exact rfl; exact rfl); (apply ol_ex; exact rfl; exact rfl; exact rfl); (apply ol_ex; exact rfl; exact rfl; exact rfl); (apply ol_val; exact rfl; apply s_alloc; exact zb_24; (focus ((repeat constructor); done)); intro bk7); (apply ol_eff; apply s_storeN; exact rfl; exact rfl; exact sz_24; exact rfl; exact rfl; (focus ((repeat constructor); done)); (focus ((repeat constructor); done))); (apply ol_as; exact rfl; exact rfl); (apply ol_nil))
        | (refine cw_region_id 7 ?_; (apply ol_ldN; exact rfl; exact rfl; exact rfl; exact sz_24; (apply RdN.own; (focus ((repeat constructor); done)); (focus ((repeat (first | exact rfl | constructor)); done)))); (apply ol_ldN; exact rfl; exact rfl; exact rfl; exact sz_24; (apply RdN.own; (focus ((repeat constructor); done)); (focus ((repeat (first | exact rfl | constructor)); done)))); (apply ol_val; exact rfl; apply s_callv; exact rfl; exact gf_16; (intro w' hw'; exact sameJ_spec w' rfl rfl (hw'.ok_ (by (repeat (first | exact Has.here | apply Has.there)))) (hw'.ok_ (by (repeat (first | exact Has.here | apply Has.there)))) (by assumption) (by assumption))); (apply ol_mv; exact rfl; exact rfl); (first | (apply ol_gskip; exact rfl; exact rfl; (first | exact rfl | assumption); exact rfl) | (apply ol_gval; exact rfl; exact rfl; exact rfl; (first | exact rfl | assumption); apply stp_pur; apply s_move; exact rfl)); (first | (apply ol_gskip; exact rfl; exact rfl; (first | exact rfl | assumption); exact rfl) | (apply ol_gval; exact rfl; exact rfl; exact rfl; (first | exact rfl | assumption); apply stp_pur; apply s_move; exact rfl)); (first | (apply ol_gskip; exact rfl; exact rfl; (first | exact rfl | assumption); exact rfl) | (apply ol_gval; exact rfl; exact rfl; exact rfl; (first | exact rfl | assumption); apply stp_cmp; apply s_eql; exact rfl; exact rfl; all_goals (intro hc37; try (exfalso; (first | exact hc37 rfl | omega))))); all_goals (apply ol_val; exact rfl; apply stp_pur; first | (apply s_pick_t; exact rfl; (first | exact rfl | assumption); exact rfl) | (apply s_pick_f; exact rfl; (first | exact rfl | assumption); exact rfl)); all_goals (apply ol_as; exact rfl; exact rfl); all_goals (apply ol_nil))
        | (apply cw_cond_true; exact rfl; (first | exact rfl | assumption))
        | (apply cw_cond_false; exact rfl; (first | exact rfl | assumption))
        | apply cw_skip
        | apply cw_ret
        | apply cw_block
        | apply cw_exit
      refine ends [] (RVal.tmp rfl RVal.nil) Pick.nil ?_
      rfl
    · have ks := fun (w' : World) (hw' : View.le M (View.of w')) => short_no (c := cl) hw' hm sR hs
      repeat' first
        | apply cw_seq
        | (refine cw_region_id 0 ?_; (apply ol_val; exact rfl; first | (apply s_boxN; exact rfl; intro bk2) | (apply s_box1; exact rfl; exact rfl; intro bk2)); (apply ol_as; exact rfl; exact rfl); (apply ol_nil))
        | (refine cw_region_id 1 ?_; (apply ol_val; exact rfl; apply s_callv; exact rfl; exact gf_10; (intro w' hw'; exact awake_spec hw'.le hL)); (apply ol_val; exact rfl; apply stp_pur; first | (apply s_not_t; exact rfl; (first | exact rfl | assumption)) | (apply s_not_f; exact rfl; (first | exact rfl | assumption)) | (apply s_not; exact rfl)); (apply ol_nil))
        | (refine cw_region_id 3 ?_; (apply ol_ldN; exact rfl; exact rfl; exact rfl; exact sz_24; (apply RdN.own; (focus ((repeat constructor); done)); (focus ((repeat (first | exact rfl | constructor)); done)))); (apply ol_val; exact rfl; apply s_callv; exact rfl; exact gf_11; (intro w' hw'; exact kf w')); (apply ol_val; exact rfl; apply stp_pur; first | (apply s_not_t; exact rfl; (first | exact rfl | assumption)) | (apply s_not_f; exact rfl; (first | exact rfl | assumption)) | (apply s_not; exact rfl)); (apply ol_mv; exact rfl; exact rfl); (first | (apply ol_gskip; exact rfl; exact rfl; (first | exact rfl | assumption); exact rfl) | (apply ol_gval; exact rfl; exact rfl; exact rfl; (first | exact rfl | assumption); apply stp_pur; apply s_move; exact rfl)); (first | (apply ol_gskip; exact rfl; exact rfl; (first | exact rfl | assumption); exact rfl) | (apply ol_gval; exact rfl; exact rfl; exact rfl; (first | exact rfl | assumption); apply s_callv; exact rfl; exact gf_26; (intro w' hw'; exact ks w' hw'.le))); (first | (apply ol_gskip; exact rfl; exact rfl; (first | exact rfl | assumption); exact rfl) | (apply ol_gval; exact rfl; exact rfl; exact rfl; (first | exact rfl | assumption); apply stp_pur; first | (apply s_not_t; exact rfl; (first | exact rfl | assumption)) | (apply s_not_f; exact rfl; (first | exact rfl | assumption)) | (apply s_not; exact rfl))); (apply ol_val; exact rfl; apply stp_pur; first | (apply s_pick_t; exact rfl; (first | exact rfl | assumption); exact rfl) | (apply s_pick_f; exact rfl; (first | exact rfl | assumption); exact rfl)); (apply ol_nil))
        | (refine cw_region_id 4 ?_; (apply ol_as; exact rfl; exact rfl); (apply ol_nil))
        | (apply cw_cond_true; exact rfl; (first | exact rfl | assumption))
        | (apply cw_cond_false; exact rfl; (first | exact rfl | assumption))
        | apply cw_skip
        | apply cw_ret
        | apply cw_block
        | apply cw_exit
      refine ends [] (RVal.tmp rfl RVal.nil) Pick.nil ?_
      rfl
  · rw [decide_eq_false h4] at kf
    repeat' first
      | apply cw_seq
      | (refine cw_region_id 0 ?_; (apply ol_val; exact rfl; first | (apply s_boxN; exact rfl; intro bk2) | (apply s_box1; exact rfl; exact rfl; intro bk2)); (apply ol_as; exact rfl; exact rfl); (apply ol_nil))
      | (refine cw_region_id 1 ?_; (apply ol_val; exact rfl; apply s_callv; exact rfl; exact gf_10; (intro w' hw'; exact awake_spec hw'.le hL)); (apply ol_val; exact rfl; apply stp_pur; first | (apply s_not_t; exact rfl; (first | exact rfl | assumption)) | (apply s_not_f; exact rfl; (first | exact rfl | assumption)) | (apply s_not; exact rfl)); (apply ol_nil))
      | (refine cw_region_id 3 ?_; (apply ol_ldN; exact rfl; exact rfl; exact rfl; exact sz_24; (apply RdN.own; (focus ((repeat constructor); done)); (focus ((repeat (first | exact rfl | constructor)); done)))); (apply ol_val; exact rfl; apply s_callv; exact rfl; exact gf_11; (intro w' hw'; exact kf w')); (apply ol_val; exact rfl; apply stp_pur; first | (apply s_not_t; exact rfl; (first | exact rfl | assumption)) | (apply s_not_f; exact rfl; (first | exact rfl | assumption)) | (apply s_not; exact rfl)); (apply ol_mv; exact rfl; exact rfl); (first | (apply ol_gskip; exact rfl; exact rfl; (first | exact rfl | assumption); exact rfl) | (apply ol_gval; exact rfl; exact rfl; exact rfl; (first | exact rfl | assumption); apply stp_pur; apply s_move; exact rfl)); (apply ol_gskip; exact rfl; exact rfl; (first | exact rfl | assumption); exact rfl); (first | (apply ol_gskip; exact rfl; exact rfl; (first | exact rfl | assumption); exact rfl) | (apply ol_gval; exact rfl; exact rfl; exact rfl; (first | exact rfl | assumption); apply stp_pur; first | (apply s_not_t; exact rfl; (first | exact rfl | assumption)) | (apply s_not_f; exact rfl; (first | exact rfl | assumption)) | (apply s_not; exact rfl))); (apply ol_val; exact rfl; apply stp_pur; first | (apply s_pick_t; exact rfl; (first | exact rfl | assumption); exact rfl) | (apply s_pick_f; exact rfl; (first | exact rfl | assumption); exact rfl)); (apply ol_nil))
      | (refine cw_region_id 4 ?_; (apply ol_as; exact rfl; exact rfl); (apply ol_nil))
      | (apply cw_cond_true; exact rfl; (first | exact rfl | assumption))
      | (apply cw_cond_false; exact rfl; (first | exact rfl | assumption))
      | apply cw_skip
      | apply cw_ret
      | apply cw_block
      | apply cw_exit
    refine ends [] (RVal.tmp rfl RVal.nil) Pick.nil ?_
    rfl
end Go.Proofs.YtelidojkpbaofaaDoor
