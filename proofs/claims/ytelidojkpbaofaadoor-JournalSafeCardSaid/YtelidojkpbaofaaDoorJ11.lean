/-
  The walk of the chapter's example; the laws on single operations.
-/
import Derived.Test.YtelidojkpbaofaaDoorJ10
namespace Go.Proofs.YtelidojkpbaofaaDoor
set_option maxRecDepth 20000
set_option linter.unusedSimpArgs false
set_option linter.unusedVariables false
open Go Go.Fw
theorem isB_nil : isB [] := .of fun x hx => by cases hx
theorem isB_be4 (n : Nat) : isB (be4 n) := .of fun x hx => by
  unfold be4 at hx
  simp only [List.mem_cons, List.not_mem_nil, or_false] at hx
  omega
theorem new10 : (newJ 10).af = 10 := by unfold newJ; rw [if_neg (by decide)]
theorem newm1 : (newJ (-1)).af = -1 := by unfold newJ; rw [if_pos (by decide)]
theorem app10 : appJ ⟨[], 0, 10⟩ [] = (⟨(frB []).take 10, 0, 0⟩, 19) := by
  unfold appJ wrJ
  rw [if_neg (by decide), if_neg (by decide)]
  dsimp only
  rw [frB_length]
  rfl
theorem appm1 : appJ ⟨[], 0, -1⟩ [] = (⟨frB [], 0, -1⟩, 0) := by
  unfold appJ wrJ
  rw [if_neg (by decide), if_neg (by decide)]
  dsimp only
  rw [frB_length]
  have : (frB []).take (wrN (-1) (36 + ([] : List Int).length)) = frB [] := List.take_of_length_le (by rw [frB_length]; exact Nat.le_refl _)
  rw [this]
  rfl
theorem read10 : readJ ⟨(frB []).take 10, 0, 0⟩ = [] := by
  unfold readJ
  split
  · exact read_torn (b := []) (by decide) (by decide)
  · rfl
theorem readm1 : readJ ⟨frB [], 0, -1⟩ = [[]] := by
  unfold readJ
  have hl : (frB []).length = 36 := frB_length []
  rw [if_pos (by unfold validJ validN; dsimp only; rw [hl]; decide)]
  have := read_frame (b := []) (q := []) (by decide)
  rw [List.append_nil, readL_nil] at this
  exact this
end Go.Proofs.YtelidojkpbaofaaDoor
namespace Go.Proofs.YtelidojkpbaofaaDoor
set_option maxRecDepth 20000
set_option linter.unusedSimpArgs false
set_option linter.unusedVariables false
open Go Go.Fw
attribute [local irreducible] CW OL OD FX Stp FnC FnV Ret sha strOf be8 be4 frB num4 appJ syncJ crashJ readJ
set_option maxHeartbeats 800000
theorem jread_len {w : World} (hL : Laid (View.of w)) {j : JV} {n c : Nat} {r : Option Nat} {A : Option Addr} {sp : List Value} (hn : j.by_.length = n) (hnc : n ≤ c) (hb : isB j.by_) (ho : OB.ok ⟨r, flat (eK .u8) j.by_ ++ sp, 5⟩ w) (hr : r = none → j.by_ = []) {k : Nat} (hk : (readJ j).length = k) :
    FnC Tryd.prog 20 [.agg [.slice (base r A) n c, .int .i64 j.du, .int .i64 j.af].toArray] w (fun v new => ∃ r' cap cells, v = .slice (base r' none) k cap ∧ new = [⟨r', cells, 22⟩]) :=
  FnV.toC (jread_spec (View.le.refl _) hL hn hnc hb (SlA.ownK (A := A) ho hr)) fun v F new ⟨rows, r', cap, sp', h1, h3, _, h2, _⟩ => ⟨r', cap, _, by rw [h1, ← hk, ← h2, List.length_map], h3⟩

theorem isB_frB (b : List Int) (hb : isB b) : isB (frB b) := by
  unfold frB
  refine (isB_be4 _).append ((isB_sha b).append hb)

theorem awake_spec {M : View} {w : World} (hM : View.le M (View.of w)) (hL : Laid M) : FnC Tryd.prog 10 [] w (fun v _ => v = .bool true) := by
  refine enterF (M := M) Tryd.func10 rfl rfl rfl rfl hM ?_
  have n1 := fun (w' : World) => jnew_spec w' 10
  have n2 := fun (w' : World) => jnew_spec w' (-1)
  rw [new10] at n1
  rw [newm1] at n2
  have a1 := fun (w' : World) (hw' : View.le M (View.of w')) => japp_spec (j := ⟨[], 0, 10⟩) (c := 0) (cb := 0) (b := []) hw' hL rfl (SlA.zilch (a := none)) rfl isB_nil (SlA.zilch (a := none))
  have a2 := fun (w' : World) (hw' : View.le M (View.of w')) => japp_spec (j := ⟨[], 0, -1⟩) (c := 0) (cb := 0) (b := []) hw' hL rfl (SlA.zilch (a := none)) rfl isB_nil (SlA.zilch (a := none))
  rw [app10] at a1
  rw [appm1] at a2
  have hl : (frB []).length = 36 := frB_length []
  have hl1 : ((frB []).take 10).length = 10 := by rw [List.length_take, hl]; rfl
  have hbf := isB_frB [] isB_nil
  have hbf1 : isB ((frB []).take 10) := by have := hbf.part 0 10; rwa [List.drop_zero] at this
  have r1 := fun (w' : World) (hw' : View.le M (View.of w')) {n c : Nat} {r : Option Nat} {A : Option Addr} {sp : List Value} => jread_len (w := w') (hL.mono hw') (j := ⟨(frB []).take 10, 0, 0⟩) (n := n) (c := c) (r := r) (A := A) (sp := sp) (k := 0)
  have r2 := fun (w' : World) (hw' : View.le M (View.of w')) {n c : Nat} {r : Option Nat} {A : Option Addr} {sp : List Value} => jread_len (w := w') (hL.mono hw') (j := ⟨frB [], 0, -1⟩) (n := n) (c := c) (r := r) (A := A) (sp := sp) (k := 1)
  have z1 : (readJ ⟨(frB []).take 10, 0, 0⟩).length = 0 := by rw [read10]; rfl
  have z2 : (readJ ⟨frB [], 0, -1⟩).length = 1 := by rw [readm1]; rfl
  dsimp only at r1 r2
  generalize readJ ⟨(frB []).take 10, 0, 0⟩ = Z1 at *
  generalize readJ ⟨frB [], 0, -1⟩ = Z2 at *
  generalize (frB []).take 10 = P1 at *
  generalize frB [] = P2 at *
  repeat' first
    | apply cw_seq
    | (refine cw_region_id 0 ?_; (apply ol_as; exact rfl; exact rfl); (apply ol_nil))
    | (refine cw_region_id 1 ?_; (apply ol_val; exact rfl; apply s_callv; exact rfl; exact gf_17; (intro w' hw'; (first | exact n1 w' | exact n2 w'))); (apply ol_val; exact rfl; apply s_call; exact rfl; exact gf_12; (intro w' hw'; (first | exact a1 w' hw'.le | exact a2 w' hw'.le)); ((intro v new h; obtain ⟨u, rfl, r, A, cp, sp, rfl, rfl, hr, hcp⟩ := h; dsimp only at hr hcp ⊢))); (apply ol_mv; exact rfl; exact rfl); (apply ol_ex; exact rfl; exact rfl; exact rfl); (apply ol_ex; exact rfl; exact rfl; exact rfl); (apply ol_val; exact rfl; apply s_alloc; exact zb_24; (focus ((repeat constructor); done)); intro bk1); (apply ol_eff; apply s_storeN; exact rfl; exact rfl; exact sz_24; exact rfl; exact rfl; (focus ((repeat constructor); done)); (focus ((repeat constructor); done))); (apply ol_as; exact rfl; exact rfl); (apply ol_nil))
    | (refine cw_region_id 2 ?_; (apply ol_val; exact rfl; apply s_callv; exact rfl; exact gf_17; (intro w' hw'; (first | exact n1 w' | exact n2 w'))); (apply ol_val; exact rfl; apply s_call; exact rfl; exact gf_12; (intro w' hw'; (first | exact a1 w' hw'.le | exact a2 w' hw'.le)); ((intro v new h; obtain ⟨u, rfl, r, A, cp, sp, rfl, rfl, hr, hcp⟩ := h; dsimp only at hr hcp ⊢))); (apply ol_mv; exact rfl; exact rfl); (apply ol_ex; exact rfl; exact rfl; exact rfl); (apply ol_ex; exact rfl; exact rfl; exact rfl); (apply ol_val; exact rfl; apply s_alloc; exact zb_24; (focus ((repeat constructor); done)); intro bk3); (apply ol_eff; apply s_storeN; exact rfl; exact rfl; exact sz_24; exact rfl; exact rfl; (focus ((repeat constructor); done)); (focus ((repeat constructor); done))); (apply ol_as; exact rfl; exact rfl); (apply ol_nil))
    | (refine cw_region_id 3 ?_; (apply ol_mv; exact rfl; exact rfl); (apply ol_val; exact rfl; apply stp_cmp; apply s_eql; exact rfl; exact rfl; all_goals (intro hc16; try (exfalso; (first | exact hc16 rfl | omega)))); all_goals (apply ol_mv; exact rfl; exact rfl); all_goals (first | (apply ol_gskip; exact rfl; exact rfl; (first | exact rfl | assumption); exact rfl) | (apply ol_gval; exact rfl; exact rfl; exact rfl; (first | exact rfl | assumption); apply stp_pur; apply s_fieldAddr'; exact rfl; exact fd_24_0; (first | exact Nat.zero_add _ | exact Nat.add_zero _ | exact rfl))); all_goals (first | (apply ol_gskip; exact rfl; exact rfl; (first | exact rfl | assumption); exact rfl) | (apply ol_gval; exact rfl; exact rfl; exact rfl; (first | exact rfl | assumption); apply stp_pur; apply s_load1; exact rfl; exact rfl; (apply RdN.own; (focus ((repeat constructor); done)); exact GetN.cons rfl GetN.nil))); all_goals (first | (apply ol_gskip; exact rfl; exact rfl; (first | exact rfl | assumption); exact rfl) | (apply ol_gval; exact rfl; exact rfl; exact rfl; (first | exact rfl | assumption); apply stp_pur; apply s_len; exact rfl; exact el_22)); all_goals (first | (apply ol_gskip; exact rfl; exact rfl; (first | exact rfl | assumption); exact rfl) | (apply ol_gval; exact rfl; exact rfl; exact rfl; (first | exact rfl | assumption); apply stp_cmp; apply s_eql; exact rfl; exact rfl; all_goals (intro hc21; try (exfalso; (first | exact hc21 rfl | omega))))); all_goals (apply ol_val; exact rfl; apply stp_pur; first | (apply s_pick_t; exact rfl; (first | exact rfl | assumption); exact rfl) | (apply s_pick_f; exact rfl; (first | exact rfl | assumption); exact rfl)); all_goals (apply ol_mv; exact rfl; exact rfl); all_goals (first | (apply ol_gskip; exact rfl; exact rfl; (first | exact rfl | assumption); exact rfl) | (apply ol_gval; exact rfl; exact rfl; exact rfl; (first | exact rfl | assumption); apply stp_pur; apply s_loadN; exact rfl; exact rfl; exact sz_24; (apply RdN.own; (focus ((repeat constructor); done)); (focus ((repeat (first | exact rfl | constructor)); done))))); all_goals (first | (apply ol_gskip; exact rfl; exact rfl; (first | exact rfl | assumption); exact rfl) | (apply ol_gval; exact rfl; exact rfl; exact rfl; (first | exact rfl | assumption); apply s_call; exact rfl; exact gf_20; (intro w' hw'; (first | exact r1 w' hw'.le rfl (by assumption) hbf1 (hw'.ok_ (by (repeat (first | exact Has.here | apply Has.there)))) (by assumption) z1 | exact r2 w' hw'.le rfl (by assumption) hbf (hw'.ok_ (by (repeat (first | exact Has.here | apply Has.there)))) (by assumption) z2)); ((intro v new h; obtain ⟨r', cp', cells, rfl, rfl⟩ := h)))); all_goals (first | (apply ol_gskip; exact rfl; exact rfl; (first | exact rfl | assumption); exact rfl) | (apply ol_gval; exact rfl; exact rfl; exact rfl; (first | exact rfl | assumption); apply stp_pur; apply s_len; exact rfl; exact el_36)); all_goals (first | (apply ol_gskip; exact rfl; exact rfl; (first | exact rfl | assumption); exact rfl) | (apply ol_gval; exact rfl; exact rfl; exact rfl; (first | exact rfl | assumption); apply stp_cmp; apply s_eql; exact rfl; exact rfl; all_goals (intro hc27; try (exfalso; (first | exact hc27 rfl | omega))))); all_goals (apply ol_val; exact rfl; apply stp_pur; first | (apply s_pick_t; exact rfl; (first | exact rfl | assumption); exact rfl) | (apply s_pick_f; exact rfl; (first | exact rfl | assumption); exact rfl)); all_goals (apply ol_mv; exact rfl; exact rfl); all_goals (first | (apply ol_gskip; exact rfl; exact rfl; (first | exact rfl | assumption); exact rfl) | (apply ol_gval; exact rfl; exact rfl; exact rfl; (first | exact rfl | assumption); apply stp_pur; apply s_move; exact rfl)); all_goals (first | (apply ol_gskip; exact rfl; exact rfl; (first | exact rfl | assumption); exact rfl) | (apply ol_gval; exact rfl; exact rfl; exact rfl; (first | exact rfl | assumption); apply stp_cmp; apply s_eql; exact rfl; exact rfl; all_goals (intro hc31; try (exfalso; (first | exact hc31 rfl | omega))))); all_goals (apply ol_val; exact rfl; apply stp_pur; first | (apply s_pick_t; exact rfl; (first | exact rfl | assumption); exact rfl) | (apply s_pick_f; exact rfl; (first | exact rfl | assumption); exact rfl)); all_goals (apply ol_mv; exact rfl; exact rfl); all_goals (first | (apply ol_gskip; exact rfl; exact rfl; (first | exact rfl | assumption); exact rfl) | (apply ol_gval; exact rfl; exact rfl; exact rfl; (first | exact rfl | assumption); apply stp_pur; apply s_fieldAddr'; exact rfl; exact fd_24_0; (first | exact Nat.zero_add _ | exact Nat.add_zero _ | exact rfl))); all_goals (first | (apply ol_gskip; exact rfl; exact rfl; (first | exact rfl | assumption); exact rfl) | (apply ol_gval; exact rfl; exact rfl; exact rfl; (first | exact rfl | assumption); apply stp_pur; apply s_load1; exact rfl; exact rfl; (apply RdN.own; (focus ((repeat constructor); done)); exact GetN.cons rfl GetN.nil))); all_goals (first | (apply ol_gskip; exact rfl; exact rfl; (first | exact rfl | assumption); exact rfl) | (apply ol_gval; exact rfl; exact rfl; exact rfl; (first | exact rfl | assumption); apply stp_pur; apply s_len; exact rfl; exact el_22)); all_goals (first | (apply ol_gskip; exact rfl; exact rfl; (first | exact rfl | assumption); exact rfl) | (apply ol_gval; exact rfl; exact rfl; exact rfl; (first | exact rfl | assumption); apply stp_cmp; apply s_eql; exact rfl; exact rfl; all_goals (intro hc37; try (exfalso; (first | exact hc37 rfl | omega))))); all_goals (apply ol_val; exact rfl; apply stp_pur; first | (apply s_pick_t; exact rfl; (first | exact rfl | assumption); exact rfl) | (apply s_pick_f; exact rfl; (first | exact rfl | assumption); exact rfl)); all_goals (apply ol_mv; exact rfl; exact rfl); all_goals (first | (apply ol_gskip; exact rfl; exact rfl; (first | exact rfl | assumption); exact rfl) | (apply ol_gval; exact rfl; exact rfl; exact rfl; (first | exact rfl | assumption); apply stp_pur; apply s_loadN; exact rfl; exact rfl; exact sz_24; (apply RdN.own; (focus ((repeat constructor); done)); (focus ((repeat (first | exact rfl | constructor)); done))))); all_goals (first | (apply ol_gskip; exact rfl; exact rfl; (first | exact rfl | assumption); exact rfl) | (apply ol_gval; exact rfl; exact rfl; exact rfl; (first | exact rfl | assumption); apply s_call; exact rfl; exact gf_20; (intro w' hw'; (first | exact r1 w' hw'.le rfl (by assumption) hbf1 (hw'.ok_ (by (repeat (first | exact Has.here | apply Has.there)))) (by assumption) z1 | exact r2 w' hw'.le rfl (by assumption) hbf (hw'.ok_ (by (repeat (first | exact Has.here | apply Has.there)))) (by assumption) z2)); ((intro v new h; obtain ⟨r', cp', cells, rfl, rfl⟩ := h)))); all_goals (first | (apply ol_gskip; exact rfl; exact rfl; (first | exact rfl | assumption); exact rfl) | (apply ol_gval; exact rfl; exact rfl; exact rfl; (first | exact rfl | assumption); apply stp_pur; apply s_len; exact rfl; exact el_36)); all_goals (first | (apply ol_gskip; exact rfl; exact rfl; (first | exact rfl | assumption); exact rfl) | (apply ol_gval; exact rfl; exact rfl; exact rfl; (first | exact rfl | assumption); apply stp_cmp; apply s_eql; exact rfl; exact rfl; all_goals (intro hc43; try (exfalso; (first | exact hc43 rfl | omega))))); all_goals (apply ol_val; exact rfl; apply stp_pur; first | (apply s_pick_t; exact rfl; (first | exact rfl | assumption); exact rfl) | (apply s_pick_f; exact rfl; (first | exact rfl | assumption); exact rfl)); all_goals (apply ol_as; exact rfl; exact rfl); all_goals (apply ol_nil))
    | (apply cw_cond_true; exact rfl; (first | exact rfl | assumption))
    | (apply cw_cond_false; exact rfl; (first | exact rfl | assumption))
    | apply cw_skip
    | apply cw_ret
    | apply cw_block
    | apply cw_exit
  refine ends [] (RVal.tmp rfl RVal.nil) Pick.nil ?_
  rfl
end Go.Proofs.YtelidojkpbaofaaDoor
