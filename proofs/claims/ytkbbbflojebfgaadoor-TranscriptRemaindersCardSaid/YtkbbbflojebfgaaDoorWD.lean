/-
  Some texts joined.
-/
import Derived.Test.YtkbbbflojebfgaaDoorWC
import Derived.Test.YtkbbbflojebfgaaDoorTy
import Derived.Test.YtkbbbflojebfgaaDoorWB
/-
  Labels.
-/
namespace Go.Proofs.YtkbbbflojebfgaaDoor
set_option maxRecDepth 20000
set_option linter.unusedSimpArgs false
set_option linter.unusedVariables false
open Go Go.Fw
attribute [local irreducible] CW OL OD FX Stp FnC FnV Ret
set_option maxHeartbeats 800000
/-- A letter that no label has. -/
def badC (c : Int) : Bool := decide (c < 33 ∨ 126 < c)
theorem anyBIdx_spec {M : View} {w : World} (hM : View.le M (View.of w)) {f : Nat} {cap : List Value} {p : Int → Bool} (hg : goFunc Tryd.prog f = true) (hp : ∀ (w' : World) (x : Int), View.le M (View.of w') → FnC Tryd.prog f ([.int .u8 x] ++ cap) w' (fun v _ => v = .bool (p x)))
    {xs : List Int} {i : Int} (hi : idxI p xs = i) {n : Nat} (hn : xs.length = n) {a : Option Addr} {b o c : Nat} (s : SlA M (eK .u8) 1 a xs b o) (hl : xs.length ≤ 4611686018427387904) :
    FnC Tryd.prog 39 [.slice a n c, .func (.func f) #[] cap.toArray] w (fun v _ => v = .int .i64 i) := by
  subst hi hn
  refine enterF (M := M) Tryd.func39 rfl rfl rfl rfl hM ?_
  repeat' first
    | apply cw_seq
    | (refine cw_region_id 0 ?_; (apply ol_as; exact rfl; exact rfl); (apply ol_nil))
    | (refine cw_region_id 1 ?_; (apply ol_mv; exact rfl; exact rfl); (apply ol_val; exact rfl; apply stp_pur; apply s_len; exact rfl; exact el_38); (apply ol_mv; exact rfl; exact rfl); (apply ol_nil))
    | (apply cw_cond_true; exact rfl; (first | exact rfl | assumption))
    | (apply cw_cond_false; exact rfl; (first | exact rfl | assumption))
    | apply cw_skip
    | apply cw_ret
    | apply cw_block
    | apply cw_exit
  refine cw_loopK (σ := Nat) [0, 1, 7] (by (repeat (first | exact Keep.nil | (apply Keep.cons; exact rfl)))) (fun k => [(8, .int .i64 k)]) (fun _ => M) (fun _ => []) (fun k => k ≤ xs.length ∧ (xs.take k).any p = false) (fun k => xs.length - k) 0 (by (repeat (first | exact trivial | refine And.intro rfl ?_))) (View.le.refl _) (by (repeat (first | exact Pick.nil | (apply Pick.cons; (focus ((repeat (first | exact Spl.here | apply Spl.there)); done))) | exact Pick.refl | exact Pick.skip1 | exact Pick.skip2))) ⟨by omega, by simp⟩ ?_
  intro k ⟨hk, ht⟩
  by_cases hk' : k < xs.length
  · have hsp : xs = xs.take k ++ xs[k] :: xs.drop (k + 1) := by simp
    cases hpx : p xs[k] with
    | true =>
      repeat' first
        | apply cw_seq
        | (refine cw_region_id 2 ?_; (apply ol_val; exact rfl; apply stp_cmp; apply s_lss; exact rfl; exact rfl; all_goals (intro _; try (exfalso; (first | (rename_i hh; exact hh rfl) | omega)))); all_goals (apply ol_nil))
        | (refine cw_region_id 3 ?_; (apply ol_mv; exact rfl; exact rfl); (apply ol_as; exact rfl; exact rfl); (apply ol_nil))
        | (refine cw_region_id 4 ?_; (apply ol_mv; exact rfl; exact rfl); (apply ol_mv; exact rfl; exact rfl); (apply ol_mv; exact rfl; exact rfl); (apply ol_val; exact rfl; apply stp_pur; first | (apply s_indexK; exact rfl; exact rfl; exact el_38; exact sz_5; (first | exact rfl | exact s.at_ (by omega)); omega) | (apply s_indexO; exact rfl; exact rfl; exact el_38; exact sz_5; (first | exact rfl | exact s.at_ (by omega)); omega)); (apply ol_ld; exact rfl; exact rfl; exact rfl; (first | (apply RdN.own; (focus ((repeat constructor); done)); (first | exact GetN.cons rfl GetN.nil | (apply getN_ints_app; (first | omega | (simp; omega) | (simp; done))) | (apply getN_ints; (first | omega | (simp; omega) | (simp; done))))) | (apply RdN.view; exact s.cells _ (by omega)))); (apply ol_val; exact rfl; (apply s_clov (fs := []); exact rfl; exact rfl; exact hg; (intro w' hw'; exact hp w' xs[k] hw'.le); rw [hpx])); all_goals (apply ol_nil))
        | (refine cw_region_id 5 ?_; (apply ol_mv; exact rfl; exact rfl); (apply ol_as; exact rfl; exact rfl); (apply ol_nil))
        | (refine cw_region_id 6 ?_; (apply ol_val; exact rfl; apply stp_pur; apply s_add64; exact rfl; exact rfl; omega); (apply ol_mv; exact rfl; exact rfl); (apply ol_nil))
        | (refine cw_region_id 7 ?_; (apply ol_as; exact rfl; exact rfl); (apply ol_nil))
        | (apply cw_cond_true; exact rfl; (first | exact rfl | assumption))
        | (apply cw_cond_false; exact rfl; (first | exact rfl | assumption))
        | apply cw_skip
        | apply cw_ret
        | apply cw_block
        | apply cw_exit
      refine ends [] (RVal.tmp rfl RVal.nil) Pick.nil ?_
      rw [idxI_first hk' ht hpx]
      rfl
    | false =>
      repeat' first
        | apply cw_seq
        | (refine cw_region_id 2 ?_; (apply ol_val; exact rfl; apply stp_cmp; apply s_lss; exact rfl; exact rfl; all_goals (intro _; try (exfalso; (first | (rename_i hh; exact hh rfl) | omega)))); all_goals (apply ol_nil))
        | (refine cw_region_id 3 ?_; (apply ol_mv; exact rfl; exact rfl); (apply ol_as; exact rfl; exact rfl); (apply ol_nil))
        | (refine cw_region_id 4 ?_; (apply ol_mv; exact rfl; exact rfl); (apply ol_mv; exact rfl; exact rfl); (apply ol_mv; exact rfl; exact rfl); (apply ol_val; exact rfl; apply stp_pur; first | (apply s_indexK; exact rfl; exact rfl; exact el_38; exact sz_5; (first | exact rfl | exact s.at_ (by omega)); omega) | (apply s_indexO; exact rfl; exact rfl; exact el_38; exact sz_5; (first | exact rfl | exact s.at_ (by omega)); omega)); (apply ol_ld; exact rfl; exact rfl; exact rfl; (first | (apply RdN.own; (focus ((repeat constructor); done)); (first | exact GetN.cons rfl GetN.nil | (apply getN_ints_app; (first | omega | (simp; omega) | (simp; done))) | (apply getN_ints; (first | omega | (simp; omega) | (simp; done))))) | (apply RdN.view; exact s.cells _ (by omega)))); (apply ol_val; exact rfl; (apply s_clov (fs := []); exact rfl; exact rfl; exact hg; (intro w' hw'; exact hp w' xs[k] hw'.le); rw [hpx])); all_goals (apply ol_nil))
        | (refine cw_region_id 5 ?_; (apply ol_mv; exact rfl; exact rfl); (apply ol_as; exact rfl; exact rfl); (apply ol_nil))
        | (refine cw_region_id 6 ?_; (apply ol_val; exact rfl; apply stp_pur; apply s_add64; exact rfl; exact rfl; omega); (apply ol_mv; exact rfl; exact rfl); (apply ol_nil))
        | (refine cw_region_id 7 ?_; (apply ol_as; exact rfl; exact rfl); (apply ol_nil))
        | (apply cw_cond_true; exact rfl; (first | exact rfl | assumption))
        | (apply cw_cond_false; exact rfl; (first | exact rfl | assumption))
        | apply cw_skip
        | apply cw_ret
        | apply cw_block
        | apply cw_exit
      refine ⟨k + 1, ⟨by (repeat (first | exact trivial | refine And.intro rfl ?_)), View.le.refl _, by (repeat (first | exact Pick.nil | (apply Pick.cons; (focus ((repeat (first | exact Spl.here | apply Spl.there)); done))) | exact Pick.refl | exact Pick.skip1 | exact Pick.skip2)), ⟨by omega, ?_⟩, by omega⟩⟩
      rw [List.take_succ_eq_append_getElem hk', List.any_append, ht]
      simp [hpx]
  · have ek : k = xs.length := by omega
    repeat' first
      | apply cw_seq
      | (refine cw_region_id 2 ?_; (apply ol_val; exact rfl; apply stp_cmp; apply s_lss; exact rfl; exact rfl; all_goals (intro _; try (exfalso; (first | (rename_i hh; exact hh rfl) | omega)))); all_goals (apply ol_nil))
      | (refine cw_region_id 3 ?_; (apply ol_mv; exact rfl; exact rfl); (apply ol_as; exact rfl; exact rfl); (apply ol_nil))
      | (refine cw_region_id 4 ?_; (apply ol_mv; exact rfl; exact rfl); (apply ol_mv; exact rfl; exact rfl); (apply ol_mv; exact rfl; exact rfl); (apply ol_val; exact rfl; apply stp_pur; first | (apply s_indexK; exact rfl; exact rfl; exact el_38; exact sz_5; (first | exact rfl); omega) | (apply s_indexO; exact rfl; exact rfl; exact el_38; exact sz_5; (first | exact rfl); omega)); (apply ol_ld; exact rfl; exact rfl; exact rfl; (apply RdN.own; (focus ((repeat constructor); done)); (first | exact GetN.cons rfl GetN.nil | (apply getN_ints_app; (first | omega | (simp; omega) | (simp; done))) | (apply getN_ints; (first | omega | (simp; omega) | (simp; done)))))))
      | (refine cw_region_id 5 ?_; (apply ol_mv; exact rfl; exact rfl); (apply ol_as; exact rfl; exact rfl); (apply ol_nil))
      | (refine cw_region_id 6 ?_; (apply ol_val; exact rfl; apply stp_pur; apply s_add64; exact rfl; exact rfl; omega); (apply ol_mv; exact rfl; exact rfl); (apply ol_nil))
      | (refine cw_region_id 7 ?_; (apply ol_as; exact rfl; exact rfl); (apply ol_nil))
      | (apply cw_cond_true; exact rfl; (first | exact rfl | assumption))
      | (apply cw_cond_false; exact rfl; (first | exact rfl | assumption))
      | apply cw_skip
      | apply cw_ret
      | apply cw_block
      | apply cw_exit
    refine ends [] (RVal.tmp rfl RVal.nil) Pick.nil ?_
    rw [ek, List.take_length] at ht
    simp [tup, idxI, ht]

theorem anyB_spec {M : View} {w : World} (hM : View.le M (View.of w)) {f : Nat} {cap : List Value} {p : Int → Bool} (hg : goFunc Tryd.prog f = true) (hp : ∀ (w' : World) (x : Int), View.le M (View.of w') → FnC Tryd.prog f ([.int .u8 x] ++ cap) w' (fun v _ => v = .bool (p x)))
    {xs : List Int} {r : Bool} (hr : xs.any p = r) {n : Nat} (hn : xs.length = n) {a : Option Addr} {b o c : Nat} (s : SlA M (eK .u8) 1 a xs b o) (hl : xs.length ≤ 4611686018427387904) :
    FnC Tryd.prog 27 [.slice a n c, .func (.func f) #[] cap.toArray] w (fun v _ => v = .bool r) := by
  subst hr
  refine enterF (M := M) Tryd.func27 rfl rfl rfl rfl hM ?_
  have hi := idxI_any (p := p) (xs := xs)
  cases hany : xs.any p with
  | true =>
    rw [hany] at hi
    have hi : 0 ≤ idxI p xs := hi.2 rfl
    repeat' first
      | apply cw_seq
      | (refine cw_region_id 0 ?_; (apply ol_as; exact rfl; exact rfl); (apply ol_nil))
      | (refine cw_region_id 1 ?_; (apply ol_mv; exact rfl; exact rfl); (apply ol_mv; exact rfl; exact rfl); (apply ol_val; exact rfl; apply s_callv; exact rfl; exact gf_39; (intro w' hw'; exact anyBIdx_spec (View.le.refl (View.of w')) (p := p) hg (fun w'' x h => hp w'' x (hw'.le.trans h)) rfl hn (s.mono hw'.le) hl)); (apply ol_val; exact rfl; apply stp_cmp; apply s_geq; exact rfl; exact rfl; all_goals (intro _; try (exfalso; (first | (rename_i hh; exact hh rfl) | omega)))); all_goals (apply ol_as; exact rfl; exact rfl); all_goals (apply ol_nil))
      | (apply cw_cond_true; exact rfl; (first | exact rfl | assumption))
      | (apply cw_cond_false; exact rfl; (first | exact rfl | assumption))
      | apply cw_skip
      | apply cw_ret
      | apply cw_block
      | apply cw_exit
    refine ends [] (RVal.tmp rfl RVal.nil) Pick.nil ?_
    rfl
  | false =>
    rw [hany] at hi
    have hi : ¬ 0 ≤ idxI p xs := fun h => by have := hi.1 h; cases this
    repeat' first
      | apply cw_seq
      | (refine cw_region_id 0 ?_; (apply ol_as; exact rfl; exact rfl); (apply ol_nil))
      | (refine cw_region_id 1 ?_; (apply ol_mv; exact rfl; exact rfl); (apply ol_mv; exact rfl; exact rfl); (apply ol_val; exact rfl; apply s_callv; exact rfl; exact gf_39; (intro w' hw'; exact anyBIdx_spec (View.le.refl (View.of w')) (p := p) hg (fun w'' x h => hp w'' x (hw'.le.trans h)) rfl hn (s.mono hw'.le) hl)); (apply ol_val; exact rfl; apply stp_cmp; apply s_geq; exact rfl; exact rfl; all_goals (intro _; try (exfalso; (first | (rename_i hh; exact hh rfl) | omega)))); all_goals (apply ol_as; exact rfl; exact rfl); all_goals (apply ol_nil))
      | (apply cw_cond_true; exact rfl; (first | exact rfl | assumption))
      | (apply cw_cond_false; exact rfl; (first | exact rfl | assumption))
      | apply cw_skip
      | apply cw_ret
      | apply cw_block
      | apply cw_exit
    refine ends [] (RVal.tmp rfl RVal.nil) Pick.nil ?_
    rfl

end Go.Proofs.YtkbbbflojebfgaaDoor

/-
  Labels.
-/
namespace Go.Proofs.YtkbbbflojebfgaaDoor
set_option maxRecDepth 20000
set_option linter.unusedSimpArgs false
set_option linter.unusedVariables false
open Go Go.Fw
/-- Is the text a label? -/
def labB (l : List Int) : Bool := decide (1 ≤ l.length ∧ l.length ≤ 24) && !l.any badC
end Go.Proofs.YtkbbbflojebfgaaDoor
namespace Go.Proofs.YtkbbbflojebfgaaDoor
set_option maxRecDepth 20000
set_option linter.unusedSimpArgs false
set_option linter.unusedVariables false
open Go Go.Fw
attribute [local irreducible] CW OL OD FX Stp FnC FnV Ret strOf
set_option maxHeartbeats 800000
theorem bad_spec (w : World) (c : Int) : FnC Tryd.prog 28 [.int .u8 c] w (fun v _ => v = .bool (badC c)) := by
  refine enterF (M := View.of w) Tryd.func28 rfl rfl rfl rfl (View.le.refl _) ?_
  unfold badC
  by_cases h : c < 33 ∨ 126 < c
  · rw [decide_eq_true h]
    repeat' first
      | apply cw_seq
      | (refine cw_region_id 0 ?_; (apply ol_as; exact rfl; exact rfl); (apply ol_nil))
      | (refine cw_region_id 1 ?_; (apply ol_mv; exact rfl; exact rfl); (apply ol_val; exact rfl; apply stp_cmp; apply s_lss; exact rfl; exact rfl; all_goals (intro hc4; try (exfalso; (first | exact hc4 rfl | omega)))); all_goals (apply ol_mv; exact rfl; exact rfl); all_goals (first | (apply ol_gskip; exact rfl; exact rfl; (first | exact rfl | assumption); exact rfl) | (apply ol_gval; exact rfl; exact rfl; exact rfl; (first | exact rfl | assumption); apply stp_pur; apply s_move; exact rfl)); all_goals (first | (apply ol_gskip; exact rfl; exact rfl; (first | exact rfl | assumption); exact rfl) | (apply ol_gval; exact rfl; exact rfl; exact rfl; (first | exact rfl | assumption); apply stp_cmp; apply s_gtr; exact rfl; exact rfl; all_goals (intro hc7; try (exfalso; (first | exact hc7 rfl | omega))))); all_goals (apply ol_val; exact rfl; apply stp_pur; first | (apply s_pick_t; exact rfl; (first | exact rfl | assumption); exact rfl) | (apply s_pick_f; exact rfl; (first | exact rfl | assumption); exact rfl)); all_goals (apply ol_as; exact rfl; exact rfl); all_goals (apply ol_nil))
      | (apply cw_cond_true; exact rfl; (first | exact rfl | assumption))
      | (apply cw_cond_false; exact rfl; (first | exact rfl | assumption))
      | apply cw_skip
      | apply cw_ret
      | apply cw_block
      | apply cw_exit
    all_goals (refine ends [] (RVal.tmp rfl RVal.nil) Pick.nil ?_; rfl)
  · rw [decide_eq_false h]
    repeat' first
      | apply cw_seq
      | (refine cw_region_id 0 ?_; (apply ol_as; exact rfl; exact rfl); (apply ol_nil))
      | (refine cw_region_id 1 ?_; (apply ol_mv; exact rfl; exact rfl); (apply ol_val; exact rfl; apply stp_cmp; apply s_lss; exact rfl; exact rfl; all_goals (intro hc4; try (exfalso; (first | exact hc4 rfl | omega)))); all_goals (apply ol_mv; exact rfl; exact rfl); all_goals (first | (apply ol_gskip; exact rfl; exact rfl; (first | exact rfl | assumption); exact rfl) | (apply ol_gval; exact rfl; exact rfl; exact rfl; (first | exact rfl | assumption); apply stp_pur; apply s_move; exact rfl)); all_goals (first | (apply ol_gskip; exact rfl; exact rfl; (first | exact rfl | assumption); exact rfl) | (apply ol_gval; exact rfl; exact rfl; exact rfl; (first | exact rfl | assumption); apply stp_cmp; apply s_gtr; exact rfl; exact rfl; all_goals (intro hc7; try (exfalso; (first | exact hc7 rfl | omega))))); all_goals (apply ol_val; exact rfl; apply stp_pur; first | (apply s_pick_t; exact rfl; (first | exact rfl | assumption); exact rfl) | (apply s_pick_f; exact rfl; (first | exact rfl | assumption); exact rfl)); all_goals (apply ol_as; exact rfl; exact rfl); all_goals (apply ol_nil))
      | (apply cw_cond_true; exact rfl; (first | exact rfl | assumption))
      | (apply cw_cond_false; exact rfl; (first | exact rfl | assumption))
      | apply cw_skip
      | apply cw_ret
      | apply cw_block
      | apply cw_exit
    all_goals (refine ends [] (RVal.tmp rfl RVal.nil) Pick.nil ?_; rfl)
theorem label_spec (w : World) {l : List Int} (hl : ∀ x ∈ l, 0 ≤ x ∧ x ≤ 255) :
    FnC Tryd.prog 18 [.string (strOf l)] w (fun v _ => v = .bool (labB l)) := by
  refine enterF (M := View.of w) Tryd.func18 rfl rfl rfl rfl (View.le.refl _) ?_
  unfold labB
  have hsz := strOf_size l
  by_cases h : 1 ≤ l.length ∧ l.length ≤ 24
  · rw [decide_eq_true h, Bool.true_and]
    have kc : ∀ (w' : World) {q c : Nat} {sp : List Value}, OB.ok ⟨some q, flat (eK .u8) (intsB (strOf l)) ++ sp, 5⟩ w' → FnC Tryd.prog 27 [.slice (base (some q) none) (strOf l).size c, .func (.func 28) #[] #[]] w' (fun v _ => v = .bool (l.any badC)) := fun w' q c sp ho => by
      rw [intsB_strOf hl, ] at ho
      rw [hsz]
      exact anyB_spec (View.le.refl _) (f := 28) (cap := []) (p := badC) (by kernel_rfl) (fun w'' x h => bad_spec w'' x) rfl rfl (SlA.own (A := none) (eK_length .u8) ho (fun h => by cases h)) (by omega)
    cases hr : l.any badC with
    | true =>
      rw [hr] at kc
      repeat' first
        | apply cw_seq
        | (refine cw_region_id 0 ?_; (apply ol_as; exact rfl; exact rfl); (apply ol_nil))
        | (refine cw_region_id 1 ?_; (apply ol_mv; exact rfl; exact rfl); (apply ol_val; exact rfl; apply stp_pur; apply s_len_string; exact rfl; exact rfl; exact rfl); (apply ol_val; exact rfl; apply stp_cmp; apply s_geq; exact rfl; exact rfl; all_goals (intro hc5; try (exfalso; (first | exact hc5 rfl | omega)))); all_goals (apply ol_mv; exact rfl; exact rfl); all_goals (first | (apply ol_gskip; exact rfl; exact rfl; (first | exact rfl | assumption); exact rfl) | (apply ol_gval; exact rfl; exact rfl; exact rfl; (first | exact rfl | assumption); apply stp_pur; apply s_move; exact rfl)); all_goals (first | (apply ol_gskip; exact rfl; exact rfl; (first | exact rfl | assumption); exact rfl) | (apply ol_gval; exact rfl; exact rfl; exact rfl; (first | exact rfl | assumption); apply stp_pur; apply s_len_string; exact rfl; exact rfl; exact rfl)); all_goals (first | (apply ol_gskip; exact rfl; exact rfl; (first | exact rfl | assumption); exact rfl) | (apply ol_gval; exact rfl; exact rfl; exact rfl; (first | exact rfl | assumption); apply stp_cmp; apply s_leq; exact rfl; exact rfl; all_goals (intro hc9; try (exfalso; (first | exact hc9 rfl | omega))))); all_goals (apply ol_val; exact rfl; apply stp_pur; first | (apply s_pick_t; exact rfl; (first | exact rfl | assumption); exact rfl) | (apply s_pick_f; exact rfl; (first | exact rfl | assumption); exact rfl)); all_goals (apply ol_mv; exact rfl; exact rfl); all_goals (first | (apply ol_gskip; exact rfl; exact rfl; (first | exact rfl | assumption); exact rfl) | (apply ol_gval; exact rfl; exact rfl; exact rfl; (first | exact rfl | assumption); apply stp_pur; apply s_move; exact rfl)); all_goals (first | (apply ol_gskip; exact rfl; exact rfl; (first | exact rfl | assumption); exact rfl) | (apply ol_gval; exact rfl; exact rfl; exact rfl; (first | exact rfl | assumption); apply s_convSB; exact rfl; exact us_9; exact el_38; exact tdInt_eq ti_5; intro bk13 ck13 sk13 ok13)); all_goals (first | (apply ol_gskip; exact rfl; exact rfl; (first | exact rfl | assumption); exact rfl) | (apply ol_gval; exact rfl; exact rfl; exact rfl; (first | exact rfl | assumption); apply s_callv; exact rfl; exact gf_27; (intro w' hw'; exact kc w' (hw'.ok_ (by (repeat (first | exact Has.here | apply Has.there))))))); all_goals (first | (apply ol_gskip; exact rfl; exact rfl; (first | exact rfl | assumption); exact rfl) | (apply ol_gval; exact rfl; exact rfl; exact rfl; (first | exact rfl | assumption); apply stp_pur; first | (apply s_not_t; exact rfl; (first | exact rfl | assumption)) | (apply s_not_f; exact rfl; (first | exact rfl | assumption)) | (apply s_not; exact rfl))); all_goals (apply ol_val; exact rfl; apply stp_pur; first | (apply s_pick_t; exact rfl; (first | exact rfl | assumption); exact rfl) | (apply s_pick_f; exact rfl; (first | exact rfl | assumption); exact rfl)); all_goals (apply ol_as; exact rfl; exact rfl); all_goals (apply ol_nil))
        | (apply cw_cond_true; exact rfl; (first | exact rfl | assumption))
        | (apply cw_cond_false; exact rfl; (first | exact rfl | assumption))
        | apply cw_skip
        | apply cw_ret
        | apply cw_block
        | apply cw_exit
      all_goals (refine ends [] (RVal.tmp rfl RVal.nil) Pick.nil ?_; rfl)
    | false =>
      rw [hr] at kc
      repeat' first
        | apply cw_seq
        | (refine cw_region_id 0 ?_; (apply ol_as; exact rfl; exact rfl); (apply ol_nil))
        | (refine cw_region_id 1 ?_; (apply ol_mv; exact rfl; exact rfl); (apply ol_val; exact rfl; apply stp_pur; apply s_len_string; exact rfl; exact rfl; exact rfl); (apply ol_val; exact rfl; apply stp_cmp; apply s_geq; exact rfl; exact rfl; all_goals (intro hc5; try (exfalso; (first | exact hc5 rfl | omega)))); all_goals (apply ol_mv; exact rfl; exact rfl); all_goals (first | (apply ol_gskip; exact rfl; exact rfl; (first | exact rfl | assumption); exact rfl) | (apply ol_gval; exact rfl; exact rfl; exact rfl; (first | exact rfl | assumption); apply stp_pur; apply s_move; exact rfl)); all_goals (first | (apply ol_gskip; exact rfl; exact rfl; (first | exact rfl | assumption); exact rfl) | (apply ol_gval; exact rfl; exact rfl; exact rfl; (first | exact rfl | assumption); apply stp_pur; apply s_len_string; exact rfl; exact rfl; exact rfl)); all_goals (first | (apply ol_gskip; exact rfl; exact rfl; (first | exact rfl | assumption); exact rfl) | (apply ol_gval; exact rfl; exact rfl; exact rfl; (first | exact rfl | assumption); apply stp_cmp; apply s_leq; exact rfl; exact rfl; all_goals (intro hc9; try (exfalso; (first | exact hc9 rfl | omega))))); all_goals (apply ol_val; exact rfl; apply stp_pur; first | (apply s_pick_t; exact rfl; (first | exact rfl | assumption); exact rfl) | (apply s_pick_f; exact rfl; (first | exact rfl | assumption); exact rfl)); all_goals (apply ol_mv; exact rfl; exact rfl); all_goals (first | (apply ol_gskip; exact rfl; exact rfl; (first | exact rfl | assumption); exact rfl) | (apply ol_gval; exact rfl; exact rfl; exact rfl; (first | exact rfl | assumption); apply stp_pur; apply s_move; exact rfl)); all_goals (first | (apply ol_gskip; exact rfl; exact rfl; (first | exact rfl | assumption); exact rfl) | (apply ol_gval; exact rfl; exact rfl; exact rfl; (first | exact rfl | assumption); apply s_convSB; exact rfl; exact us_9; exact el_38; exact tdInt_eq ti_5; intro bk13 ck13 sk13 ok13)); all_goals (first | (apply ol_gskip; exact rfl; exact rfl; (first | exact rfl | assumption); exact rfl) | (apply ol_gval; exact rfl; exact rfl; exact rfl; (first | exact rfl | assumption); apply s_callv; exact rfl; exact gf_27; (intro w' hw'; exact kc w' (hw'.ok_ (by (repeat (first | exact Has.here | apply Has.there))))))); all_goals (first | (apply ol_gskip; exact rfl; exact rfl; (first | exact rfl | assumption); exact rfl) | (apply ol_gval; exact rfl; exact rfl; exact rfl; (first | exact rfl | assumption); apply stp_pur; first | (apply s_not_t; exact rfl; (first | exact rfl | assumption)) | (apply s_not_f; exact rfl; (first | exact rfl | assumption)) | (apply s_not; exact rfl))); all_goals (apply ol_val; exact rfl; apply stp_pur; first | (apply s_pick_t; exact rfl; (first | exact rfl | assumption); exact rfl) | (apply s_pick_f; exact rfl; (first | exact rfl | assumption); exact rfl)); all_goals (apply ol_as; exact rfl; exact rfl); all_goals (apply ol_nil))
        | (apply cw_cond_true; exact rfl; (first | exact rfl | assumption))
        | (apply cw_cond_false; exact rfl; (first | exact rfl | assumption))
        | apply cw_skip
        | apply cw_ret
        | apply cw_block
        | apply cw_exit
      all_goals (refine ends [] (RVal.tmp rfl RVal.nil) Pick.nil ?_; rfl)
  · rw [decide_eq_false h, Bool.false_and]
    repeat' first
      | apply cw_seq
      | (refine cw_region_id 0 ?_; (apply ol_as; exact rfl; exact rfl); (apply ol_nil))
      | (refine cw_region_id 1 ?_; (apply ol_mv; exact rfl; exact rfl); (apply ol_val; exact rfl; apply stp_pur; apply s_len_string; exact rfl; exact rfl; exact rfl); (apply ol_val; exact rfl; apply stp_cmp; apply s_geq; exact rfl; exact rfl; all_goals (intro hc5; try (exfalso; (first | exact hc5 rfl | omega)))); all_goals (apply ol_mv; exact rfl; exact rfl); all_goals (first | (apply ol_gskip; exact rfl; exact rfl; (first | exact rfl | assumption); exact rfl) | (apply ol_gval; exact rfl; exact rfl; exact rfl; (first | exact rfl | assumption); apply stp_pur; apply s_move; exact rfl)); all_goals (first | (apply ol_gskip; exact rfl; exact rfl; (first | exact rfl | assumption); exact rfl) | (apply ol_gval; exact rfl; exact rfl; exact rfl; (first | exact rfl | assumption); apply stp_pur; apply s_len_string; exact rfl; exact rfl; exact rfl)); all_goals (first | (apply ol_gskip; exact rfl; exact rfl; (first | exact rfl | assumption); exact rfl) | (apply ol_gval; exact rfl; exact rfl; exact rfl; (first | exact rfl | assumption); apply stp_cmp; apply s_leq; exact rfl; exact rfl; all_goals (intro hc9; try (exfalso; (first | exact hc9 rfl | omega))))); all_goals (apply ol_val; exact rfl; apply stp_pur; first | (apply s_pick_t; exact rfl; (first | exact rfl | assumption); exact rfl) | (apply s_pick_f; exact rfl; (first | exact rfl | assumption); exact rfl)); all_goals (apply ol_mv; exact rfl; exact rfl); all_goals (first | (apply ol_gskip; exact rfl; exact rfl; (first | exact rfl | assumption); exact rfl) | (apply ol_gval; exact rfl; exact rfl; exact rfl; (first | exact rfl | assumption); apply stp_pur; apply s_move; exact rfl)); all_goals (first | (apply ol_gskip; exact rfl; exact rfl; (first | exact rfl | assumption); exact rfl) | (apply ol_gval; exact rfl; exact rfl; exact rfl; (first | exact rfl | assumption); apply s_convSB; exact rfl; exact us_9; exact el_38; exact tdInt_eq ti_5; intro bk13 ck13 sk13 ok13)); all_goals (first | (apply ol_gskip; exact rfl; exact rfl; (first | exact rfl | assumption); exact rfl) | (apply ol_gval; exact rfl; exact rfl; exact rfl; (first | exact rfl | assumption); fail)); all_goals (first | (apply ol_gskip; exact rfl; exact rfl; (first | exact rfl | assumption); exact rfl) | (apply ol_gval; exact rfl; exact rfl; exact rfl; (first | exact rfl | assumption); apply stp_pur; first | (apply s_not_t; exact rfl; (first | exact rfl | assumption)) | (apply s_not_f; exact rfl; (first | exact rfl | assumption)) | (apply s_not; exact rfl))); all_goals (apply ol_val; exact rfl; apply stp_pur; first | (apply s_pick_t; exact rfl; (first | exact rfl | assumption); exact rfl) | (apply s_pick_f; exact rfl; (first | exact rfl | assumption); exact rfl)); all_goals (apply ol_as; exact rfl; exact rfl); all_goals (apply ol_nil))
      | (apply cw_cond_true; exact rfl; (first | exact rfl | assumption))
      | (apply cw_cond_false; exact rfl; (first | exact rfl | assumption))
      | apply cw_skip
      | apply cw_ret
      | apply cw_block
      | apply cw_exit
    all_goals (refine ends [] (RVal.tmp rfl RVal.nil) Pick.nil ?_; rfl)
theorem rlabel_spec (w : World) {l : List Int} (hl : ∀ x ∈ l, 0 ≤ x ∧ x ≤ 255) :
    FnC Tryd.prog 15 [.string (strOf l)] w (fun v _ => v = .bool (labB l)) := by
  refine enterF (M := View.of w) Tryd.func15 rfl rfl rfl rfl (View.le.refl _) ?_
  unfold labB
  have hsz := strOf_size l
  have hat := fun (i : Nat) => strOf_at (i := i) hl
  by_cases h : 1 ≤ l.length ∧ l.length ≤ 24
  · rw [decide_eq_true h, Bool.true_and]
    repeat' first
      | apply cw_seq
      | (refine cw_region_id 0 ?_; (apply ol_as; exact rfl; exact rfl); (apply ol_nil))
      | (refine cw_region_id 1 ?_; (apply ol_mv; exact rfl; exact rfl); (apply ol_val; exact rfl; apply stp_pur; apply s_len_string; exact rfl; exact rfl; exact rfl); (apply ol_val; exact rfl; apply stp_cmp; apply s_lss; exact rfl; exact rfl; all_goals (intro hc6; try (exfalso; (first | exact hc6 rfl | omega)))); all_goals (apply ol_mv; exact rfl; exact rfl); all_goals (first | (apply ol_gskip; exact rfl; exact rfl; (first | exact rfl | assumption); exact rfl) | (apply ol_gval; exact rfl; exact rfl; exact rfl; (first | exact rfl | assumption); apply stp_pur; apply s_move; exact rfl)); all_goals (first | (apply ol_gskip; exact rfl; exact rfl; (first | exact rfl | assumption); exact rfl) | (apply ol_gval; exact rfl; exact rfl; exact rfl; (first | exact rfl | assumption); apply stp_pur; apply s_len_string; exact rfl; exact rfl; exact rfl)); all_goals (first | (apply ol_gskip; exact rfl; exact rfl; (first | exact rfl | assumption); exact rfl) | (apply ol_gval; exact rfl; exact rfl; exact rfl; (first | exact rfl | assumption); apply stp_cmp; apply s_gtr; exact rfl; exact rfl; all_goals (intro hc10; try (exfalso; (first | exact hc10 rfl | omega))))); all_goals (apply ol_val; exact rfl; apply stp_pur; first | (apply s_pick_t; exact rfl; (first | exact rfl | assumption); exact rfl) | (apply s_pick_f; exact rfl; (first | exact rfl | assumption); exact rfl)); all_goals (apply ol_nil))
      | (refine cw_region_id 2 ?_; (apply ol_as; exact rfl; exact rfl); (apply ol_nil))
      | (refine cw_region_id 3 ?_; (apply ol_as; exact rfl; exact rfl); (apply ol_nil))
      | (apply cw_cond_true; exact rfl; (first | exact rfl | assumption))
      | (apply cw_cond_false; exact rfl; (first | exact rfl | assumption))
      | apply cw_skip
      | apply cw_ret
      | apply cw_block
      | apply cw_exit
    refine cw_loopK (σ := Nat) [0] (by (repeat (first | exact Keep.nil | (apply Keep.cons; exact rfl)))) (fun i => [(3, .int .i64 i)]) (fun _ => View.of w) (fun _ => []) (fun i => i ≤ l.length ∧ (l.take i).any badC = false) (fun i => l.length - i) 0 (by (repeat (first | exact trivial | refine And.intro rfl ?_))) (View.le.refl _) (by (repeat (first | exact Pick.nil | (apply Pick.cons; (focus ((repeat (first | exact Spl.here | apply Spl.there)); done))) | exact Pick.refl | exact Pick.skip1 | exact Pick.skip2))) ⟨Nat.zero_le _, rfl⟩ ?_
    rintro i ⟨hi, hall⟩
    by_cases hil : i < l.length
    · have htk := List.take_succ_eq_append_getElem hil
      have hg : l.getD i 0 = l[i] := by rw [List.getD_eq_getElem?_getD, List.getElem?_eq_getElem hil]; rfl
      have hai := hat i
      rw [hg] at hai
      cases hb : badC l[i] with
      | true =>
        have hany : l.any badC = true := List.any_eq_true.2 ⟨_, List.getElem_mem hil, hb⟩
        rw [hany]
        have hc : l[i] < 33 ∨ 126 < l[i] := by unfold badC at hb; simpa using hb
        generalize l[i] = z at *
        repeat' first
          | apply cw_seq
          | (refine cw_region_id 4 ?_; (apply ol_mv; exact rfl; exact rfl); (apply ol_mv; exact rfl; exact rfl); (apply ol_val; exact rfl; apply stp_pur; apply s_len_string; exact rfl; exact rfl; exact rfl); (apply ol_val; exact rfl; apply stp_cmp; apply s_lss; exact rfl; exact rfl; all_goals (intro hc15; try (exfalso; (first | exact hc15 rfl | omega)))); all_goals (apply ol_nil))
          | (refine cw_region_id 6 ?_; (apply ol_mv; exact rfl; exact rfl); (apply ol_mv; exact rfl; exact rfl); (apply ol_val; exact rfl; apply stp_pur; apply s_indexS; exact rfl; exact rfl; exact us_9; omega; exact hai); (apply ol_val; exact rfl; apply stp_cmp; apply s_lss; exact rfl; exact rfl; all_goals (intro hc21; try (exfalso; (first | exact hc21 rfl | omega)))); all_goals (apply ol_mv; exact rfl; exact rfl); all_goals (first | (apply ol_gskip; exact rfl; exact rfl; (first | exact rfl | assumption); exact rfl) | (apply ol_gval; exact rfl; exact rfl; exact rfl; (first | exact rfl | assumption); apply stp_pur; apply s_move; exact rfl)); all_goals (first | (apply ol_gskip; exact rfl; exact rfl; (first | exact rfl | assumption); exact rfl) | (apply ol_gval; exact rfl; exact rfl; exact rfl; (first | exact rfl | assumption); apply stp_pur; apply s_move; exact rfl)); all_goals (first | (apply ol_gskip; exact rfl; exact rfl; (first | exact rfl | assumption); exact rfl) | (apply ol_gval; exact rfl; exact rfl; exact rfl; (first | exact rfl | assumption); apply stp_pur; apply s_indexS; exact rfl; exact rfl; exact us_9; omega; exact hai)); all_goals (first | (apply ol_gskip; exact rfl; exact rfl; (first | exact rfl | assumption); exact rfl) | (apply ol_gval; exact rfl; exact rfl; exact rfl; (first | exact rfl | assumption); apply stp_cmp; apply s_gtr; exact rfl; exact rfl; all_goals (intro hc26; try (exfalso; (first | exact hc26 rfl | omega))))); all_goals (apply ol_val; exact rfl; apply stp_pur; first | (apply s_pick_t; exact rfl; (first | exact rfl | assumption); exact rfl) | (apply s_pick_f; exact rfl; (first | exact rfl | assumption); exact rfl)); all_goals (apply ol_nil))
          | (refine cw_region_id 7 ?_; (apply ol_as; exact rfl; exact rfl); (apply ol_nil))
          | (refine cw_region_id 5 ?_; (apply ol_mv; exact rfl; exact rfl); (apply ol_val; exact rfl; apply stp_pur; apply s_add64; exact rfl; exact rfl; omega); (apply ol_as; exact rfl; exact rfl); (apply ol_nil))
          | (refine cw_region_id 8 ?_; (apply ol_as; exact rfl; exact rfl); (apply ol_nil))
          | (apply cw_cond_true; exact rfl; (first | exact rfl | assumption))
          | (apply cw_cond_false; exact rfl; (first | exact rfl | assumption))
          | apply cw_skip
          | apply cw_ret
          | apply cw_block
          | apply cw_exit
        all_goals (refine ends [] (RVal.tmp rfl RVal.nil) Pick.nil ?_; rfl)
      | false =>
        have hnext : (l.take (i + 1)).any badC = false := by rw [htk, List.any_append, hall]; simp [hb]
        have hc : ¬ (l[i] < 33 ∨ 126 < l[i]) := by unfold badC at hb; simpa using hb
        clear htk
        generalize l[i] = z at *
        repeat' first
          | apply cw_seq
          | (refine cw_region_id 4 ?_; (apply ol_mv; exact rfl; exact rfl); (apply ol_mv; exact rfl; exact rfl); (apply ol_val; exact rfl; apply stp_pur; apply s_len_string; exact rfl; exact rfl; exact rfl); (apply ol_val; exact rfl; apply stp_cmp; apply s_lss; exact rfl; exact rfl; all_goals (intro hc15; try (exfalso; (first | exact hc15 rfl | omega)))); all_goals (apply ol_nil))
          | (refine cw_region_id 6 ?_; (apply ol_mv; exact rfl; exact rfl); (apply ol_mv; exact rfl; exact rfl); (apply ol_val; exact rfl; apply stp_pur; apply s_indexS; exact rfl; exact rfl; exact us_9; omega; exact hai); (apply ol_val; exact rfl; apply stp_cmp; apply s_lss; exact rfl; exact rfl; all_goals (intro hc21; try (exfalso; (first | exact hc21 rfl | omega)))); all_goals (apply ol_mv; exact rfl; exact rfl); all_goals (first | (apply ol_gskip; exact rfl; exact rfl; (first | exact rfl | assumption); exact rfl) | (apply ol_gval; exact rfl; exact rfl; exact rfl; (first | exact rfl | assumption); apply stp_pur; apply s_move; exact rfl)); all_goals (first | (apply ol_gskip; exact rfl; exact rfl; (first | exact rfl | assumption); exact rfl) | (apply ol_gval; exact rfl; exact rfl; exact rfl; (first | exact rfl | assumption); apply stp_pur; apply s_move; exact rfl)); all_goals (first | (apply ol_gskip; exact rfl; exact rfl; (first | exact rfl | assumption); exact rfl) | (apply ol_gval; exact rfl; exact rfl; exact rfl; (first | exact rfl | assumption); apply stp_pur; apply s_indexS; exact rfl; exact rfl; exact us_9; omega; exact hai)); all_goals (first | (apply ol_gskip; exact rfl; exact rfl; (first | exact rfl | assumption); exact rfl) | (apply ol_gval; exact rfl; exact rfl; exact rfl; (first | exact rfl | assumption); apply stp_cmp; apply s_gtr; exact rfl; exact rfl; all_goals (intro hc26; try (exfalso; (first | exact hc26 rfl | omega))))); all_goals (apply ol_val; exact rfl; apply stp_pur; first | (apply s_pick_t; exact rfl; (first | exact rfl | assumption); exact rfl) | (apply s_pick_f; exact rfl; (first | exact rfl | assumption); exact rfl)); all_goals (apply ol_nil))
          | (refine cw_region_id 7 ?_; (apply ol_as; exact rfl; exact rfl); (apply ol_nil))
          | (refine cw_region_id 5 ?_; (apply ol_mv; exact rfl; exact rfl); (apply ol_val; exact rfl; apply stp_pur; apply s_add64; exact rfl; exact rfl; omega); (apply ol_as; exact rfl; exact rfl); (apply ol_nil))
          | (refine cw_region_id 8 ?_; (apply ol_as; exact rfl; exact rfl); (apply ol_nil))
          | (apply cw_cond_true; exact rfl; (first | exact rfl | assumption))
          | (apply cw_cond_false; exact rfl; (first | exact rfl | assumption))
          | apply cw_skip
          | apply cw_ret
          | apply cw_block
          | apply cw_exit
        exact ⟨i + 1, ⟨by (repeat (first | exact trivial | refine And.intro rfl ?_)), View.le.refl _, by (repeat (first | exact Pick.nil | (apply Pick.cons; (focus ((repeat (first | exact Spl.here | apply Spl.there)); done))) | exact Pick.refl | exact Pick.skip1 | exact Pick.skip2)), ⟨hil, hnext⟩, by omega⟩⟩
    · have hany : l.any badC = false := by rw [List.take_of_length_le (by omega)] at hall; exact hall
      rw [hany]
      repeat' first
        | apply cw_seq
        | (refine cw_region_id 4 ?_; (apply ol_mv; exact rfl; exact rfl); (apply ol_mv; exact rfl; exact rfl); (apply ol_val; exact rfl; apply stp_pur; apply s_len_string; exact rfl; exact rfl; exact rfl); (apply ol_val; exact rfl; apply stp_cmp; apply s_lss; exact rfl; exact rfl; all_goals (intro hc15; try (exfalso; (first | exact hc15 rfl | omega)))); all_goals (apply ol_nil))
        | (refine cw_region_id 6 ?_; (apply ol_mv; exact rfl; exact rfl); (apply ol_mv; exact rfl; exact rfl); (apply ol_val; exact rfl; apply stp_pur; apply s_indexS; exact rfl; exact rfl; exact us_9; fail; fail); (apply ol_val; exact rfl; apply stp_cmp; apply s_lss; exact rfl; exact rfl; all_goals (intro hc21; try (exfalso; (first | exact hc21 rfl | omega)))); all_goals (apply ol_mv; exact rfl; exact rfl); all_goals (first | (apply ol_gskip; exact rfl; exact rfl; (first | exact rfl | assumption); exact rfl) | (apply ol_gval; exact rfl; exact rfl; exact rfl; (first | exact rfl | assumption); apply stp_pur; apply s_move; exact rfl)); all_goals (first | (apply ol_gskip; exact rfl; exact rfl; (first | exact rfl | assumption); exact rfl) | (apply ol_gval; exact rfl; exact rfl; exact rfl; (first | exact rfl | assumption); apply stp_pur; apply s_move; exact rfl)); all_goals (first | (apply ol_gskip; exact rfl; exact rfl; (first | exact rfl | assumption); exact rfl) | (apply ol_gval; exact rfl; exact rfl; exact rfl; (first | exact rfl | assumption); apply stp_pur; apply s_indexS; exact rfl; exact rfl; exact us_9; fail; fail)); all_goals (first | (apply ol_gskip; exact rfl; exact rfl; (first | exact rfl | assumption); exact rfl) | (apply ol_gval; exact rfl; exact rfl; exact rfl; (first | exact rfl | assumption); apply stp_cmp; apply s_gtr; exact rfl; exact rfl; all_goals (intro hc26; try (exfalso; (first | exact hc26 rfl | omega))))); all_goals (apply ol_val; exact rfl; apply stp_pur; first | (apply s_pick_t; exact rfl; (first | exact rfl | assumption); exact rfl) | (apply s_pick_f; exact rfl; (first | exact rfl | assumption); exact rfl)); all_goals (apply ol_nil))
        | (refine cw_region_id 7 ?_; (apply ol_as; exact rfl; exact rfl); (apply ol_nil))
        | (refine cw_region_id 5 ?_; (apply ol_mv; exact rfl; exact rfl); (apply ol_val; exact rfl; apply stp_pur; apply s_add64; exact rfl; exact rfl; omega); (apply ol_as; exact rfl; exact rfl); (apply ol_nil))
        | (refine cw_region_id 8 ?_; (apply ol_as; exact rfl; exact rfl); (apply ol_nil))
        | (apply cw_cond_true; exact rfl; (first | exact rfl | assumption))
        | (apply cw_cond_false; exact rfl; (first | exact rfl | assumption))
        | apply cw_skip
        | apply cw_ret
        | apply cw_block
        | apply cw_exit
      refine ends [] (RVal.tmp rfl RVal.nil) Pick.nil ?_
      rfl
  · rw [decide_eq_false h, Bool.false_and]
    repeat' first
      | apply cw_seq
      | (refine cw_region_id 0 ?_; (apply ol_as; exact rfl; exact rfl); (apply ol_nil))
      | (refine cw_region_id 1 ?_; (apply ol_mv; exact rfl; exact rfl); (apply ol_val; exact rfl; apply stp_pur; apply s_len_string; exact rfl; exact rfl; exact rfl); (apply ol_val; exact rfl; apply stp_cmp; apply s_lss; exact rfl; exact rfl; all_goals (intro hc6; try (exfalso; (first | exact hc6 rfl | omega)))); all_goals (apply ol_mv; exact rfl; exact rfl); all_goals (first | (apply ol_gskip; exact rfl; exact rfl; (first | exact rfl | assumption); exact rfl) | (apply ol_gval; exact rfl; exact rfl; exact rfl; (first | exact rfl | assumption); apply stp_pur; apply s_move; exact rfl)); all_goals (first | (apply ol_gskip; exact rfl; exact rfl; (first | exact rfl | assumption); exact rfl) | (apply ol_gval; exact rfl; exact rfl; exact rfl; (first | exact rfl | assumption); apply stp_pur; apply s_len_string; exact rfl; exact rfl; exact rfl)); all_goals (first | (apply ol_gskip; exact rfl; exact rfl; (first | exact rfl | assumption); exact rfl) | (apply ol_gval; exact rfl; exact rfl; exact rfl; (first | exact rfl | assumption); apply stp_cmp; apply s_gtr; exact rfl; exact rfl; all_goals (intro hc10; try (exfalso; (first | exact hc10 rfl | omega))))); all_goals (apply ol_val; exact rfl; apply stp_pur; first | (apply s_pick_t; exact rfl; (first | exact rfl | assumption); exact rfl) | (apply s_pick_f; exact rfl; (first | exact rfl | assumption); exact rfl)); all_goals (apply ol_nil))
      | (refine cw_region_id 2 ?_; (apply ol_as; exact rfl; exact rfl); (apply ol_nil))
      | (refine cw_region_id 3 ?_; (apply ol_as; exact rfl; exact rfl); (apply ol_nil))
      | (apply cw_cond_true; exact rfl; (first | exact rfl | assumption))
      | (apply cw_cond_false; exact rfl; (first | exact rfl | assumption))
      | apply cw_skip
      | apply cw_ret
      | apply cw_block
      | apply cw_exit
    all_goals (refine ends [] (RVal.tmp rfl RVal.nil) Pick.nil ?_; rfl)
end Go.Proofs.YtkbbbflojebfgaaDoor

/-
  A struct of an array of bytes and an integer.
-/
namespace Go.Fw
open Go Go.RowKit
/-- The cells: the bytes, then the number. -/
def trE (S : List Int) (c : Int) : List Value := flat (eK .u8) S ++ [.int .i64 c]
theorem trE_length {S : List Int} {c : Int} {n : Nat} (h : S.length = n) : (trE S c).length = n + 1 := by unfold trE; rw [List.length_append, flatK_length, h]; rfl
theorem ones_append : ∀ {a b : List Value}, ones a = true → ones b = true → ones (a ++ b) = true
  | [], _, _, h => h
  | v :: a, b, h, h2 => by
    show (match v.oneCell' with | true => ones (a ++ b) | false => false) = true
    have h' : (match v.oneCell' with | true => ones a | false => false) = true := h
    split
    · rename_i e
      rw [e] at h'
      exact ones_append h' h2
    · rename_i e
      rw [e] at h'
      cases h'
theorem trE_ones {S : List Int} {c : Int} : ones (trE S c) = true := ones_append flatK_ones rfl
theorem getTr_all {S : List Int} {c : Int} {n : Nat} (h : S.length = n) : GetN ((trE S c)[·]?) 0 (n + 1) (trE S c) := by
  have := getN_whole (trE S c)
  rw [trE_length h] at this
  exact this
theorem getTr_S {S : List Int} {c : Int} {n : Nat} (h : S.length = n) : GetN ((trE S c)[·]?) 0 n (flat (eK .u8) S) := getNK_n h
theorem getTr_c {S : List Int} {c : Int} {n : Nat} (h : S.length = n) : GetN ((trE S c)[·]?) n 1 [.int .i64 c] := by
  refine .cons ?_ .nil
  unfold trE
  rw [List.getElem?_append_right (by rw [flatK_length, h]; exact Nat.le_refl _), flatK_length, h, Nat.sub_self]
  rfl
theorem setN_all {l vs : List Value} (h : l.length = vs.length) : SetN l 0 vs vs := by
  have := setN_mid vs [] l [] h.symm
  simpa using this
theorem Fil.tr {S : List Int} {c : Int} {n : Nat} {zs : List Value} (h : S.length = n) (hz : zs.length = n + 1) : Fil ([(0, n), (n, 1)][·]?) zs [(0, .agg (flat (eK .u8) S).toArray), (1, .int .i64 c)] (trE S c) := by
  refine Fil.agg (off := 0) (n := n) rfl (by rw [flatK_length, h]) (cs' := flat (eK .u8) S ++ zs.drop n) ?_ (by omega) ?_
  · have := setN_mid (flat (eK .u8) S) [] (zs.take n) (zs.drop n) (by rw [flatK_length, List.length_take]; omega)
    rw [List.nil_append, List.take_append_drop] at this
    exact this
  · refine Fil.one (off := n) rfl rfl (cs' := trE S c) ?_ Fil.nil
    obtain ⟨z, hzz⟩ : ∃ z, zs.drop n = [z] := by
      match hd : zs.drop n with
      | [z] => exact ⟨z, rfl⟩
      | [] => have := congrArg List.length hd; rw [List.length_drop] at this; simp at this; omega
      | a :: b :: r => have := congrArg List.length hd; rw [List.length_drop] at this; simp at this; omega
    have e : trE S c = (flat (eK .u8) S ++ zs.drop n).set n (.int .i64 c) := by
      unfold trE
      rw [hzz, List.set_append_right _ _ (by rw [flatK_length, h]; exact Nat.le_refl _), flatK_length, h, Nat.sub_self]
      rfl
    rw [e]
    exact SetAt.set (by rw [List.length_append, flatK_length, hzz, h]; simp)
theorem Fil.tr0 {S : List Int} {n : Nat} {zs : List Value} (h : S.length = n) (hz : zs.drop n = [.int .i64 0]) (hl : zs.length = n + 1) : Fil ([(0, n), (n, 1)][·]?) zs [(0, .agg (flat (eK .u8) S).toArray)] (trE S 0) := by
  refine Fil.agg (off := 0) (n := n) rfl (by rw [flatK_length, h]) (cs' := trE S 0) ?_ (by omega) Fil.nil
  have := setN_mid (flat (eK .u8) S) [] (zs.take n) (zs.drop n) (by rw [flatK_length, List.length_take]; omega)
  rw [List.nil_append, List.take_append_drop] at this
  rw [hz] at this
  exact this
def trStruct (P : Program) (t n : Nat) : Bool := !P.eqGuardType P.depth t && !P.stoodInHeld t && (match P.underlying t with
  | some (.struct fs) => (match fs.toList with
    | [f, g] => !(f.name == "_") && !(g.name == "_") && Nat.beq f.offset 0 && Nat.beq g.offset n && intArray P f.type n && (match sizeB P f.type with | some m => Nat.beq m n | none => false) && (match aggB P f.type with | some true => true | _ => false) && (match tdInt P g.type with | some _ => true | none => false)
    | _ => false)
  | _ => false)
theorem run_eqArrayD {P : Program} (dd : Nat) {t n : Nat} (h : intArray P t n = true) {k : IntKind} {xs ys : List Int} (h1 : xs.length = n) (h2 : ys.length = n) (w : World) : (Op.equalIn (dd + 2) t (.agg (flat (eK k) xs).toArray) (.agg (flat (eK k) ys).toArray)).run P w = .ok (decide (xs = ys)) w := by
  unfold intArray at h
  simp only [Bool.and_eq_true, Bool.not_eq_true'] at h
  obtain ⟨_, h5⟩ := h
  split at h5
  · rename_i m e hu
    simp only [Bool.and_eq_true] at h5
    obtain ⟨⟨⟨hn, h3⟩, hc⟩, hi⟩ := h5
    have hn := Nat.eq_of_beq_eq_true hn
    have hc := Nat.eq_of_beq_eq_true hc
    obtain ⟨kk, hkk⟩ : ∃ kk, tdInt P e = some kk := by cases e' : tdInt P e with
      | none => rw [e'] at h3; cases h3
      | some kk => exact ⟨kk, rfl⟩
    obtain ⟨i, hi⟩ := Option.isSome_iff_exists.1 hi
    subst hn
    rw [run_equalIn_array w (dd + 1) _ _ hu hi, hc, List.range_eq_range']
    have := run_eqItemsK (k := k) dd (tdInt_eq hkk) (xs := xs) (ys := ys) (by omega) w m 0 (by omega)
    simpa using this
  · cases h5
theorem run_eqTr {P : Program} {t n : Nat} (h : trStruct P t n = true) {S S' : List Int} {c c' : Int} (h1 : S.length = n) (h2 : S'.length = n) (w : World) : (Op.equalIn 10000 t (.agg (trE S c).toArray) (.agg (trE S' c').toArray)).run P w = .ok (decide (S = S' ∧ c = c')) w := by
  unfold trStruct at h
  simp only [Bool.and_eq_true, Bool.not_eq_true'] at h
  obtain ⟨⟨_, h4⟩, h5⟩ := h
  split at h5
  · rename_i fs hu
    split at h5
    · rename_i f g hfg
      simp only [Bool.and_eq_true, Bool.not_eq_true'] at h5
      obtain ⟨⟨⟨⟨⟨⟨⟨n1, n2⟩, o1⟩, o2⟩, ia⟩, hs⟩, ha⟩, hi⟩ := h5
      have o1 := Nat.eq_of_beq_eq_true o1
      have o2 := Nat.eq_of_beq_eq_true o2
      have n1 : f.name ≠ "_" := by simpa using n1
      have n2 : g.name ≠ "_" := by simpa using n2
      have hs : sizeB P f.type = some n := by
        split at hs
        · rename_i m e; rw [e, Nat.eq_of_beq_eq_true hs]
        · cases hs
      have ha : aggB P f.type = some true := by
        split at ha
        · rename_i e; exact e
        · cases ha
      obtain ⟨kk, hkk⟩ : ∃ kk, tdInt P g.type = some kk := by cases e' : tdInt P g.type with
        | none => rw [e'] at hi; cases hi
        | some kk => exact ⟨kk, rfl⟩
      have hui := tdInt_eq hkk
      have hf : P.fieldsOf t = fs := by simp [Program.fieldsOf, hu]
      rw [run_equalIn_struct w 9999 t _ _ (by rw [hf]; exact hu) h4, hf, hfg]
      have p1 : ∀ {S : List Int} (c : Int), S.length = n → (part f.type (trE S c).toArray f.offset).run P w = .ok (.agg (flat (eK .u8) S).toArray) w := fun {S} c hS => by
        unfold part
        simp only [Sem.run_bind, run_isAgg ha, Result.andThen_ok, if_true, run_sizeOf hs, o1, Sem.run_pure]
        congr 2
        apply Array.ext'
        simp only [Array.toList_extract, Nat.zero_add]
        rw [List.extract_eq_take_drop]
        simp only [List.drop_zero, Nat.sub_zero]
        unfold trE
        rw [List.take_append_of_le_length (by rw [flatK_length, hS]; exact Nat.le_refl _), List.take_of_length_le (by rw [flatK_length, hS]; exact Nat.le_refl _)]
      have hag : (isAgg g.type).run P w = .ok false w := run_isAgg (by unfold aggB; rw [hui]) w
      have p2 : ∀ {S : List Int} (c : Int), S.length = n → (part g.type (trE S c).toArray g.offset).run P w = .ok (.int .i64 c) w := fun {S} c hS => by
        unfold part
        simp only [Sem.run_bind, hag, Result.andThen_ok, Bool.false_eq_true, if_false, o2]
        have : (trE S c)[n]? = some (.int .i64 c) := by
          unfold trE
          rw [List.getElem?_append_right (by rw [flatK_length, hS]; exact Nat.le_refl _), flatK_length, hS, Nat.sub_self]
          rfl
        simp [this]
      unfold Op.eqFields
      rw [if_pos n1]
      simp only [Sem.run_bind, p1 c h1, p1 c' h2, Result.andThen_ok]
      rw [run_eqArrayD 9997 ia h1 h2]
      simp only [Result.andThen_ok]
      by_cases hS : S = S'
      · subst hS
        rw [decide_eq_true rfl]
        simp only [Bool.not_true, Bool.false_eq_true, if_false]
        unfold Op.eqFields
        rw [if_pos n2]
        simp only [Sem.run_bind, p2 c h1, p2 c' h2, Result.andThen_ok, run_equalIn_int w 9998 g.type .i64 kk _ _ hui]
        by_cases hc : c = c'
        · subst hc
          simp [Op.eqFields]
        · have hb : (c == c') = false := by simpa using hc
          rw [hb]
          simp [hc]
      · rw [decide_eq_false hS]
        simp [hS]
    · cases h5
  · cases h5
section
variable {C : Pr} {fm : FM} {M : View} {own : List OB} {d : Option Nat} {ty : TypeId} {pos : String} {af : Array Edge} {g : Option (Nat × Bool)}
theorem s_eqTr {t n : Nat} {t' : TypeId} {x y : Operand} {S S' : List Int} {c c' : Int} (hx : ev fm x = some (.agg (trE S c).toArray)) (hy : ev fm y = some (.agg (trE S' c').toArray)) (h : trStruct C.P t n = true) (h1 : S.length = n) (h2 : S'.length = n) (he : S = S' ∧ c = c') :
    Pur C ⟨d, .binOp .eql t x y t', ty, pos, af, g⟩ fm M own (.bool true) := by
  have hg : C.P.eqGuardType C.P.depth t = false := by unfold trStruct at h; simp only [Bool.and_eq_true, Bool.not_eq_true'] at h; exact h.1.1
  intro act w hf _
  simp only [execOp, hf.eval hx, hf.eval hy, Sem.run_bind, run_eqGuard_agg w _ _ _ _ _ _ hg, Result.andThen_ok, run_eql_struct w, run_eqTr h h1 h2 w, decide_eq_true he]
  rfl
theorem s_neqTr {t n : Nat} {t' : TypeId} {x y : Operand} {S S' : List Int} {c c' : Int} (hx : ev fm x = some (.agg (trE S c).toArray)) (hy : ev fm y = some (.agg (trE S' c').toArray)) (h : trStruct C.P t n = true) (h1 : S.length = n) (h2 : S'.length = n) (he : S = S' ∧ c = c') :
    Pur C ⟨d, .binOp .neq t x y t', ty, pos, af, g⟩ fm M own (.bool false) := by
  have hg : C.P.eqGuardType C.P.depth t = false := by unfold trStruct at h; simp only [Bool.and_eq_true, Bool.not_eq_true'] at h; exact h.1.1
  intro act w hf _
  simp only [execOp, hf.eval hx, hf.eval hy, Sem.run_bind, run_eqGuard_agg w _ _ _ _ _ _ hg, Result.andThen_ok, run_neq_struct w, run_eqTr h h1 h2 w, decide_eq_true he]
  rfl
end
end Go.Fw
namespace Go.Proofs.YtkbbbflojebfgaaDoor
set_option maxRecDepth 20000
set_option linter.unusedSimpArgs false
set_option linter.unusedVariables false
open Go Go.Fw
theorem tr_25 : trStruct Tryd.prog 25 32 = true := by kernel_rfl
/-- Thirty-two zeros. -/
def z32 : List Int := List.replicate 32 0
theorem z32_length : z32.length = 32 := rfl
end Go.Proofs.YtkbbbflojebfgaaDoor

/-
  Frames of a transcript; the validity of transcripts; hash.
-/
namespace Go.Proofs.YtkbbbflojebfgaaDoor
set_option maxRecDepth 20000
set_option linter.unusedSimpArgs false
set_option linter.unusedVariables false
open Go Go.Fw
theorem SlA.none' {α : Type} {M : View} {enc : α → List Value} {sz : Nat} {a : Option Addr} {b o : Nat} : SlA M enc sz a ([] : List α) b o := ⟨fun h => by simp at h, fun i h => by simp at h⟩
/-- A leaf, so deep as it is read. -/
def mkL : (d : Nat) → Hd → It d
  | 0, h => h
  | _ + 1, h => (h, [])
theorem mkL_hd : ∀ (d : Nat) (h : Hd), (mkL d h).hd = h
  | 0, _ => rfl
  | _ + 1, _ => rfl
theorem ItV.mkL {M : View} {h : Hd} (hv : HdV M h) (hm : h.m = 0) : ∀ d, ItV M d (mkL d h)
  | 0 => hv
  | d + 1 => ⟨hv, hm.symm, SlA.none', fun x hx => by cases hx⟩
theorem okI_mkL {h : Hd} (h3 : h.k ≠ 3) (d : Nat) : okI d (mkL d h) = okH h := by
  rw [okI_leaf (.inl (by rw [mkL_hd]; exact h3)), mkL_hd]
theorem encI_mkL {h : Hd} (h3 : h.k ≠ 3) (d : Nat) : encI d (mkL d h) = encH h := by
  rw [encI_leaf (.inl (by rw [mkL_hd]; exact h3)), mkL_hd]
/-- A leaf of bytes; a leaf of a number. -/
def hdB (xs : List Int) (a : Option Addr) (b o c : Nat) : Hd := ⟨2, 0, ⟨xs, a, b, o, c⟩, none, 0, 0, 0, 0⟩
def hdN (n : Int) : Hd := ⟨1, n, ⟨[], none, 0, 0, 0⟩, none, 0, 0, 0, 0⟩
def lfB (xs : List Int) : List Int := 2 :: (bI 4 xs.length ++ xs)
theorem encH_hdB (xs : List Int) (a : Option Addr) (b o c : Nat) : encH (hdB xs a b o c) = lfB xs := rfl
theorem encH_hdN (n : Int) : encH (hdN n) = 1 :: bI 8 (u64 n) := rfl
/-- The encoding of a frame: state, label, and k more items whose encodings are E. -/
def frB (S l : List Int) (k : Nat) (E : List Int) : List Int := 3 :: (bI 4 (2 + k) ++ (lfB S ++ (lfB l ++ E)))
theorem lfB_length (xs : List Int) : (lfB xs).length = 5 + xs.length := by unfold lfB; rw [List.length_cons, List.length_append, bI_length]; omega
theorem frB_length (S l : List Int) (k : Nat) (E : List Int) : (frB S l k E).length = 15 + S.length + l.length + E.length := by
  unfold frB
  rw [List.length_cons, List.length_append, List.length_append, List.length_append, bI_length, lfB_length, lfB_length]
  omega
theorem isB_mem {l : List Int} (h : isB l) : ∀ x ∈ l, 0 ≤ x ∧ x ≤ 255 := fun x hx => by
  obtain ⟨i, hi, rfl⟩ := List.mem_iff_getElem.1 hx
  have := h i
  rw [List.getD_eq_getElem?_getD, List.getElem?_eq_getElem hi] at this
  exact this
/-- A frame in the store. -/
theorem fr_item {N : View} {S l : List Int} {xs : List (It 7)} {k n c : Nat} {A : Option Addr} {bS oS cS bl ol cl b o : Nat} {aS al : Option Addr} (hS : SlA N (eK .u8) 1 aS S bS oS) (hl : SlA N (eK .u8) 1 al l bl ol)
    (hSb : ∀ x ∈ S, 0 ≤ x ∧ x ≤ 255) (hlb : ∀ x ∈ l, 0 ≤ x ∧ x ≤ 255) (hS1 : S.length ≤ 1000) (hl1 : l.length ≤ 1000) (hk : xs.length = k) (hk1 : k ≤ 40) (hn : n = 2 + k)
    (hr : SlA N It.enc 4 A ([mkL 7 (hdB S aS bS oS cS), mkL 7 (hdB l al bl ol cl)] ++ xs) b o) (hx : ∀ x ∈ xs, ItV N 7 x) (hok : ∀ x ∈ xs, okI 7 x = true) :
    ∃ x : It 8, x.enc = [.int .i64 3, .int .i64 0, .slice none 0 0, .slice A n c] ∧ ItV N 8 x ∧ okI 8 x = true ∧ encI 8 x = frB S l k (xs.flatMap (encI 7)) := by
  subst hn
  refine ⟨(⟨3, 0, ⟨[], none, 0, 0, 0⟩, A, b, o, c, 2 + k⟩, [mkL 7 (hdB S aS bS oS cS), mkL 7 (hdB l al bl ol cl)] ++ xs), rfl, ⟨⟨SlA.none', fun x hx => by simp at hx, by simp, by show 2 + k ≤ 1073741824; omega⟩, by show _ = 2 + k; rw [List.length_append, hk]; rfl, hr, ?_⟩, ?_, ?_⟩
  · intro x hx'
    rcases List.mem_append.1 hx' with h | h
    · simp only [List.mem_cons, List.not_mem_nil, or_false] at h
      rcases h with rfl | rfl
      · exact ItV.mkL ⟨hS, hSb, by show S.length ≤ _; omega, by show 0 ≤ _; omega⟩ rfl 7
      · exact ItV.mkL ⟨hl, hlb, by show l.length ≤ _; omega, by show 0 ≤ _; omega⟩ rfl 7
    · exact hx x h
  · rw [okI_list rfl, Bool.and_eq_true, decide_eq_true_eq, List.all_eq_true]
    refine ⟨⟨rfl, rfl, by show 2 + k ≤ 1000; omega⟩, ?_⟩
    intro x hx'
    rcases List.mem_append.1 hx' with h | h
    · simp only [List.mem_cons, List.not_mem_nil, or_false] at h
      rcases h with rfl | rfl
      · rw [okI_mkL (by show (2 : Int) ≠ 3; omega)]; rfl
      · rw [okI_mkL (by show (2 : Int) ≠ 3; omega)]; rfl
    · exact hok x h
  · rw [encI_list rfl, List.flatMap_append]
    simp only [List.flatMap_cons, List.flatMap_nil, List.append_nil]
    rw [encI_mkL (by show (2 : Int) ≠ 3; omega), encI_mkL (by show (2 : Int) ≠ 3; omega), encH_hdB, encH_hdB]
    unfold frB
    simp [List.append_assoc]
/-- A valid transcript. -/
abbrev tOk (c : Int) : Prop := 0 ≤ c ∧ c ≤ 1000
end Go.Proofs.YtkbbbflojebfgaaDoor
namespace Go.Proofs.YtkbbbflojebfgaaDoor
set_option maxRecDepth 20000
set_option linter.unusedSimpArgs false
set_option linter.unusedVariables false
open Go Go.Fw
attribute [local irreducible] CW OL OD FX Stp FnC FnV FnA Ret bI encI okI trE sha strOf
set_option maxHeartbeats 800000
theorem tvalid_spec (w : World) {S : List Int} (hS : S.length = 32) (c : Int) : FnC Tryd.prog 17 [.agg (trE S c).toArray] w (fun v _ => v = .bool (decide (tOk c))) := by
  refine enterF (M := View.of w) Tryd.func17 rfl rfl rfl rfl (View.le.refl _) ?_
  by_cases h : tOk c
  · rw [decide_eq_true h]
    repeat' first
      | apply cw_seq
      | (refine cw_region_id 0 ?_; (apply ol_val; exact rfl; first | (apply s_boxN; exact rfl; intro bk1) | (apply s_box1; exact rfl; exact rfl; intro bk1)); (apply ol_as; exact rfl; exact rfl); (apply ol_nil))
      | (refine cw_region_id 1 ?_; (apply ol_fa; exact rfl; exact rfl; exact fd_25_1; (first | exact Nat.zero_add _ | exact Nat.add_zero _ | exact rfl)); (apply ol_ld; exact rfl; exact rfl; exact rfl; (first | (apply RdN.own; (focus ((repeat constructor); done)); (first | exact GetN.cons rfl GetN.nil | (apply getN_ints_app; (first | omega | (simp; omega) | (simp; done))) | (apply getN_ints; (first | omega | (simp; omega) | (simp; done))))) | (apply RdN.own; (repeat (first | exact Has.here | apply Has.there)); exact getTr_c hS))); (apply ol_val; exact rfl; apply stp_cmp; apply s_geq; exact rfl; exact rfl; all_goals (intro hc5; try (exfalso; (first | exact hc5 rfl | omega)))); all_goals (apply ol_mv; exact rfl; exact rfl); all_goals (first | (apply ol_gskip; exact rfl; exact rfl; (first | exact rfl | assumption); exact rfl) | (apply ol_gval; exact rfl; exact rfl; exact rfl; (first | exact rfl | assumption); apply stp_pur; apply s_fieldAddr'; exact rfl; exact fd_25_1; (first | exact Nat.zero_add _ | exact Nat.add_zero _ | exact rfl))); all_goals (first | (apply ol_gskip; exact rfl; exact rfl; (first | exact rfl | assumption); exact rfl) | (apply ol_gval; exact rfl; exact rfl; exact rfl; (first | exact rfl | assumption); apply stp_pur; apply s_load1; exact rfl; exact rfl; (first | (apply RdN.own; (focus ((repeat constructor); done)); (first | exact GetN.cons rfl GetN.nil | (apply getN_ints_app; (first | omega | (simp; omega) | (simp; done))) | (apply getN_ints; (first | omega | (simp; omega) | (simp; done))))) | (apply RdN.own; (repeat (first | exact Has.here | apply Has.there)); exact getTr_c hS)))); all_goals (first | (apply ol_gskip; exact rfl; exact rfl; (first | exact rfl | assumption); exact rfl) | (apply ol_gval; exact rfl; exact rfl; exact rfl; (first | exact rfl | assumption); apply stp_cmp; apply s_leq; exact rfl; exact rfl; all_goals (intro hc9; try (exfalso; (first | exact hc9 rfl | omega))))); all_goals (apply ol_val; exact rfl; apply stp_pur; first | (apply s_pick_t; exact rfl; (first | exact rfl | assumption); exact rfl) | (apply s_pick_f; exact rfl; (first | exact rfl | assumption); exact rfl)); all_goals (apply ol_as; exact rfl; exact rfl); all_goals (apply ol_nil))
      | (apply cw_cond_true; exact rfl; (first | exact rfl | assumption))
      | (apply cw_cond_false; exact rfl; (first | exact rfl | assumption))
      | apply cw_skip
      | apply cw_ret
      | apply cw_block
      | apply cw_exit
    all_goals (refine ends [] (RVal.tmp rfl RVal.nil) Pick.nil ?_; rfl)
  · rw [decide_eq_false h]
    unfold tOk at h
    repeat' first
      | apply cw_seq
      | (refine cw_region_id 0 ?_; (apply ol_val; exact rfl; first | (apply s_boxN; exact rfl; intro bk1) | (apply s_box1; exact rfl; exact rfl; intro bk1)); (apply ol_as; exact rfl; exact rfl); (apply ol_nil))
      | (refine cw_region_id 1 ?_; (apply ol_fa; exact rfl; exact rfl; exact fd_25_1; (first | exact Nat.zero_add _ | exact Nat.add_zero _ | exact rfl)); (apply ol_ld; exact rfl; exact rfl; exact rfl; (first | (apply RdN.own; (focus ((repeat constructor); done)); (first | exact GetN.cons rfl GetN.nil | (apply getN_ints_app; (first | omega | (simp; omega) | (simp; done))) | (apply getN_ints; (first | omega | (simp; omega) | (simp; done))))) | (apply RdN.own; (repeat (first | exact Has.here | apply Has.there)); exact getTr_c hS))); (apply ol_val; exact rfl; apply stp_cmp; apply s_geq; exact rfl; exact rfl; all_goals (intro hc5; try (exfalso; (first | exact hc5 rfl | omega)))); all_goals (apply ol_mv; exact rfl; exact rfl); all_goals (first | (apply ol_gskip; exact rfl; exact rfl; (first | exact rfl | assumption); exact rfl) | (apply ol_gval; exact rfl; exact rfl; exact rfl; (first | exact rfl | assumption); apply stp_pur; apply s_fieldAddr'; exact rfl; exact fd_25_1; (first | exact Nat.zero_add _ | exact Nat.add_zero _ | exact rfl))); all_goals (first | (apply ol_gskip; exact rfl; exact rfl; (first | exact rfl | assumption); exact rfl) | (apply ol_gval; exact rfl; exact rfl; exact rfl; (first | exact rfl | assumption); apply stp_pur; apply s_load1; exact rfl; exact rfl; (first | (apply RdN.own; (focus ((repeat constructor); done)); (first | exact GetN.cons rfl GetN.nil | (apply getN_ints_app; (first | omega | (simp; omega) | (simp; done))) | (apply getN_ints; (first | omega | (simp; omega) | (simp; done))))) | (apply RdN.own; (repeat (first | exact Has.here | apply Has.there)); exact getTr_c hS)))); all_goals (first | (apply ol_gskip; exact rfl; exact rfl; (first | exact rfl | assumption); exact rfl) | (apply ol_gval; exact rfl; exact rfl; exact rfl; (first | exact rfl | assumption); apply stp_cmp; apply s_leq; exact rfl; exact rfl; all_goals (intro hc9; try (exfalso; (first | exact hc9 rfl | omega))))); all_goals (apply ol_val; exact rfl; apply stp_pur; first | (apply s_pick_t; exact rfl; (first | exact rfl | assumption); exact rfl) | (apply s_pick_f; exact rfl; (first | exact rfl | assumption); exact rfl)); all_goals (apply ol_as; exact rfl; exact rfl); all_goals (apply ol_nil))
      | (apply cw_cond_true; exact rfl; (first | exact rfl | assumption))
      | (apply cw_cond_false; exact rfl; (first | exact rfl | assumption))
      | apply cw_skip
      | apply cw_ret
      | apply cw_block
      | apply cw_exit
    all_goals (refine ends [] (RVal.tmp rfl RVal.nil) Pick.nil ?_; rfl)
theorem rtvalid_spec (w : World) {S : List Int} (hS : S.length = 32) (c : Int) : FnC Tryd.prog 14 [.agg (trE S c).toArray] w (fun v _ => v = .bool (decide (tOk c))) := by
  refine enterF (M := View.of w) Tryd.func14 rfl rfl rfl rfl (View.le.refl _) ?_
  by_cases h : tOk c
  · rw [decide_eq_true h]
    repeat' first
      | apply cw_seq
      | (refine cw_region_id 0 ?_; (apply ol_val; exact rfl; first | (apply s_boxN; exact rfl; intro bk1) | (apply s_box1; exact rfl; exact rfl; intro bk1)); (apply ol_as; exact rfl; exact rfl); (apply ol_nil))
      | (refine cw_region_id 1 ?_; (apply ol_fa; exact rfl; exact rfl; exact fd_25_1; (first | exact Nat.zero_add _ | exact Nat.add_zero _ | exact rfl)); (apply ol_ld; exact rfl; exact rfl; exact rfl; (first | (apply RdN.own; (focus ((repeat constructor); done)); (first | exact GetN.cons rfl GetN.nil | (apply getN_ints_app; (first | omega | (simp; omega) | (simp; done))) | (apply getN_ints; (first | omega | (simp; omega) | (simp; done))))) | (apply RdN.own; (repeat (first | exact Has.here | apply Has.there)); exact getTr_c hS))); (apply ol_val; exact rfl; apply stp_cmp; apply s_geq; exact rfl; exact rfl; all_goals (intro hc5; try (exfalso; (first | exact hc5 rfl | omega)))); all_goals (apply ol_mv; exact rfl; exact rfl); all_goals (first | (apply ol_gskip; exact rfl; exact rfl; (first | exact rfl | assumption); exact rfl) | (apply ol_gval; exact rfl; exact rfl; exact rfl; (first | exact rfl | assumption); apply stp_pur; apply s_fieldAddr'; exact rfl; exact fd_25_1; (first | exact Nat.zero_add _ | exact Nat.add_zero _ | exact rfl))); all_goals (first | (apply ol_gskip; exact rfl; exact rfl; (first | exact rfl | assumption); exact rfl) | (apply ol_gval; exact rfl; exact rfl; exact rfl; (first | exact rfl | assumption); apply stp_pur; apply s_load1; exact rfl; exact rfl; (first | (apply RdN.own; (focus ((repeat constructor); done)); (first | exact GetN.cons rfl GetN.nil | (apply getN_ints_app; (first | omega | (simp; omega) | (simp; done))) | (apply getN_ints; (first | omega | (simp; omega) | (simp; done))))) | (apply RdN.own; (repeat (first | exact Has.here | apply Has.there)); exact getTr_c hS)))); all_goals (first | (apply ol_gskip; exact rfl; exact rfl; (first | exact rfl | assumption); exact rfl) | (apply ol_gval; exact rfl; exact rfl; exact rfl; (first | exact rfl | assumption); apply stp_cmp; apply s_leq; exact rfl; exact rfl; all_goals (intro hc9; try (exfalso; (first | exact hc9 rfl | omega))))); all_goals (apply ol_val; exact rfl; apply stp_pur; first | (apply s_pick_t; exact rfl; (first | exact rfl | assumption); exact rfl) | (apply s_pick_f; exact rfl; (first | exact rfl | assumption); exact rfl)); all_goals (apply ol_as; exact rfl; exact rfl); all_goals (apply ol_nil))
      | (apply cw_cond_true; exact rfl; (first | exact rfl | assumption))
      | (apply cw_cond_false; exact rfl; (first | exact rfl | assumption))
      | apply cw_skip
      | apply cw_ret
      | apply cw_block
      | apply cw_exit
    all_goals (refine ends [] (RVal.tmp rfl RVal.nil) Pick.nil ?_; rfl)
  · rw [decide_eq_false h]
    unfold tOk at h
    repeat' first
      | apply cw_seq
      | (refine cw_region_id 0 ?_; (apply ol_val; exact rfl; first | (apply s_boxN; exact rfl; intro bk1) | (apply s_box1; exact rfl; exact rfl; intro bk1)); (apply ol_as; exact rfl; exact rfl); (apply ol_nil))
      | (refine cw_region_id 1 ?_; (apply ol_fa; exact rfl; exact rfl; exact fd_25_1; (first | exact Nat.zero_add _ | exact Nat.add_zero _ | exact rfl)); (apply ol_ld; exact rfl; exact rfl; exact rfl; (first | (apply RdN.own; (focus ((repeat constructor); done)); (first | exact GetN.cons rfl GetN.nil | (apply getN_ints_app; (first | omega | (simp; omega) | (simp; done))) | (apply getN_ints; (first | omega | (simp; omega) | (simp; done))))) | (apply RdN.own; (repeat (first | exact Has.here | apply Has.there)); exact getTr_c hS))); (apply ol_val; exact rfl; apply stp_cmp; apply s_geq; exact rfl; exact rfl; all_goals (intro hc5; try (exfalso; (first | exact hc5 rfl | omega)))); all_goals (apply ol_mv; exact rfl; exact rfl); all_goals (first | (apply ol_gskip; exact rfl; exact rfl; (first | exact rfl | assumption); exact rfl) | (apply ol_gval; exact rfl; exact rfl; exact rfl; (first | exact rfl | assumption); apply stp_pur; apply s_fieldAddr'; exact rfl; exact fd_25_1; (first | exact Nat.zero_add _ | exact Nat.add_zero _ | exact rfl))); all_goals (first | (apply ol_gskip; exact rfl; exact rfl; (first | exact rfl | assumption); exact rfl) | (apply ol_gval; exact rfl; exact rfl; exact rfl; (first | exact rfl | assumption); apply stp_pur; apply s_load1; exact rfl; exact rfl; (first | (apply RdN.own; (focus ((repeat constructor); done)); (first | exact GetN.cons rfl GetN.nil | (apply getN_ints_app; (first | omega | (simp; omega) | (simp; done))) | (apply getN_ints; (first | omega | (simp; omega) | (simp; done))))) | (apply RdN.own; (repeat (first | exact Has.here | apply Has.there)); exact getTr_c hS)))); all_goals (first | (apply ol_gskip; exact rfl; exact rfl; (first | exact rfl | assumption); exact rfl) | (apply ol_gval; exact rfl; exact rfl; exact rfl; (first | exact rfl | assumption); apply stp_cmp; apply s_leq; exact rfl; exact rfl; all_goals (intro hc9; try (exfalso; (first | exact hc9 rfl | omega))))); all_goals (apply ol_val; exact rfl; apply stp_pur; first | (apply s_pick_t; exact rfl; (first | exact rfl | assumption); exact rfl) | (apply s_pick_f; exact rfl; (first | exact rfl | assumption); exact rfl)); all_goals (apply ol_as; exact rfl; exact rfl); all_goals (apply ol_nil))
      | (apply cw_cond_true; exact rfl; (first | exact rfl | assumption))
      | (apply cw_cond_false; exact rfl; (first | exact rfl | assumption))
      | apply cw_skip
      | apply cw_ret
      | apply cw_block
      | apply cw_exit
    all_goals (refine ends [] (RVal.tmp rfl RVal.nil) Pick.nil ?_; rfl)
end Go.Proofs.YtkbbbflojebfgaaDoor

/-
  The walk of transcript.hash.
-/
namespace Go.Proofs.YtkbbbflojebfgaaDoor
set_option maxRecDepth 20000
set_option linter.unusedSimpArgs false
set_option linter.unusedVariables false
open Go Go.Fw
theorem mkL_enc (d : Nat) (h : Hd) : (mkL d h).enc = [.int .i64 h.k, .int .i64 h.n, .slice h.B.a h.B.xs.length h.B.c, .slice h.La h.m h.Lc] := by unfold It.enc; rw [mkL_hd]
theorem two_leaves {S l : List Int} {n : Nat} {aS al : Option Addr} {bS oS cS bl ol cl : Nat} {xs : List (It 7)} {sp : List Value} (hS : S.length = 32) (hl : l.length = n) :
    flat It.enc ([mkL 7 (hdB S aS bS oS cS), mkL 7 (hdB l al bl ol cl)] ++ xs) ++ sp = [.int .i64 2, .int .i64 0, .slice aS 32 cS, .slice none 0 0, .int .i64 2, .int .i64 0, .slice al n cl, .slice none 0 0] ++ flat It.enc xs ++ sp := by
  rw [flat_append]
  have e : flat It.enc [mkL 7 (hdB S aS bS oS cS), mkL 7 (hdB l al bl ol cl)] = (mkL 7 (hdB S aS bS oS cS)).enc ++ ((mkL 7 (hdB l al bl ol cl)).enc ++ []) := rfl
  rw [e, mkL_enc, mkL_enc]
  have e1 : (hdB S aS bS oS cS).B.xs.length = 32 := hS
  have e2 : (hdB l al bl ol cl).B.xs.length = n := hl
  rw [e1, e2]
  rfl
theorem lfB_b {xs : List Int} (h : ∀ x ∈ xs, 0 ≤ x ∧ x ≤ 255) : ∀ x ∈ lfB xs, 0 ≤ x ∧ x ≤ 255 := fun x hx => by
  rcases List.mem_cons.1 hx with rfl | hx
  · omega
  · exact (List.mem_append.1 hx).elim (bI_b _ _ x) (h x)
theorem frB_b {S l E : List Int} {k : Nat} (hS : ∀ x ∈ S, 0 ≤ x ∧ x ≤ 255) (hl : ∀ x ∈ l, 0 ≤ x ∧ x ≤ 255) (hE : ∀ x ∈ E, 0 ≤ x ∧ x ≤ 255) : ∀ x ∈ frB S l k E, 0 ≤ x ∧ x ≤ 255 := fun x hx => by
  rcases List.mem_cons.1 hx with rfl | hx
  · omega
  · rcases List.mem_append.1 hx with hx | hx
    · exact bI_b _ _ x hx
    · rcases List.mem_append.1 hx with hx | hx
      · exact lfB_b hS x hx
      · exact (List.mem_append.1 hx).elim (lfB_b hl x) (hE x)
end Go.Proofs.YtkbbbflojebfgaaDoor
namespace Go.Proofs.YtkbbbflojebfgaaDoor
set_option maxRecDepth 20000
set_option linter.unusedSimpArgs false
set_option linter.unusedVariables false
open Go Go.Fw
attribute [local irreducible] CW OL OD FX Stp FnC FnV FnA Ret bI encI okI trE sha strOf frB encP tagd
set_option maxHeartbeats 800000
theorem hash_spec {M : View} {w : World} (hM : View.le M (View.of w)) (hL : Laid M) {S : List Int} (hS : S.length = 32) (hSb : isB S) (c : Int) {l : List Int} (hlb : ∀ x ∈ l, 0 ≤ x ∧ x ≤ 255) (hl : 1 ≤ l.length ∧ l.length ≤ 24) {t : ByteArray} (ht : 1 ≤ t.size ∧ t.size ≤ 100)
    {xs : List (It 7)} {k cc : Nat} {a : Option Addr} {b o : Nat} (hk : xs.length = k) (hk1 : k ≤ 40) (s : SlA M It.enc 4 a xs b o) (hx : ∀ x ∈ xs, ItV M 7 x) (hok : ∀ x ∈ xs, okI 7 x = true) (hlen : (xs.flatMap (encI 7)).length ≤ 16000) :
    FnC Tryd.prog 19 [.string t, .agg (trE S c).toArray, .string (strOf l), .slice a k cc] w (fun v _ => v = .tuple #[.agg (flat (eK .u8) (tagd (intsB t) (frB S l k (xs.flatMap (encI 7))))).toArray, .int .i64 0]) := by
  subst hk
  have hSm := isB_mem hSb
  have hfl : (frB S l xs.length (xs.flatMap (encI 7))).length ≤ 16384 := by rw [frB_length]; omega
  have hfb : isB (frB S l xs.length (xs.flatMap (encI 7))) := isB.of (frB_b hSm hlb (fun y hy => by
    obtain ⟨x, h1, h2⟩ := List.mem_flatMap.1 hy
    exact encI_b (hx x h1) y h2))
  have kE : ∀ (w' : World) {b5 bl c2 cl : Nat} {r : Option Nat} {A : Option Addr} {sp spl : List Value}, View.le M (View.of w') → OB.ok ⟨some b5, trE S c, 25⟩ w' → OB.ok ⟨some bl, flat (eK .u8) (intsB (strOf l)) ++ spl, 5⟩ w' →
      OB.ok ⟨r, [.int .i64 2, .int .i64 0, .slice (some ⟨b5, 0, none⟩) 32 32, .slice none 0 0, .int .i64 2, .int .i64 0, .slice (base (some bl) none) (strOf l).size cl, .slice none 0 0] ++ flat It.enc xs ++ sp, 41⟩ w' → (r = none → False) →
      FnC Tryd.prog 29 [.agg [.int .i64 3, .int .i64 0, .slice none 0 0, .slice (base r A) (2 + xs.length) c2].toArray] w' (BRs (0, frB S l xs.length (xs.flatMap (encI 7)))) := fun w' b5 bl c2 cl r A sp spl h1 h2 h3 h4 h5 => by
    rw [intsB_strOf hlb] at h3
    rw [strOf_size, ← two_leaves hS rfl (oS := 0) (bS := b5) (bl := bl) (ol := 0)] at h4
    have hS2 : SlA (View.of w') (eK .u8) 1 (some ⟨b5, 0, none⟩) S b5 0 := SlA.own (A := none) (eK_length .u8) (by unfold trE at h2; exact h2) (fun h => by cases h)
    have hl2 : SlA (View.of w') (eK .u8) 1 (base (some bl) none) l bl 0 := SlA.own (A := none) (eK_length .u8) h3 (fun h => by cases h)
    obtain ⟨x, e1, e2, e3, e4⟩ := fr_item (c := c2) hS2 hl2 hSm hlb (by omega) (by omega) rfl hk1 rfl (SlA.own (A := A) It.enc_length h4 (fun h => (h5 h).elim)) (fun x h => ItV.mono h1 (hx x h)) hok
    rw [← e1]
    have := encode_spec (View.le.refl _) e2
    unfold encP at this
    rw [e3, e4, if_neg (by simp), if_neg (by omega)] at this
    exact this
  have htag : ∀ (w' : World) {r : Option Nat} {A : Option Addr} {m c : Nat} {sp : List Value}, View.le M (View.of w') → OB.ok ⟨r, flat (eK .u8) (frB S l xs.length (xs.flatMap (encI 7))) ++ sp, 5⟩ w' → m = (frB S l xs.length (xs.flatMap (encI 7))).length → (r = none → frB S l xs.length (xs.flatMap (encI 7)) = []) → FnC Tryd.prog 21 [.string t, .slice (base r A) m c] w' (fun v _ => v = .tuple #[.agg (flat (eK .u8) (tagd (intsB t) (frB S l xs.length (xs.flatMap (encI 7))))).toArray, .int .i64 0]) := fun w' r A m c sp h1 h2 h3 h4 =>
    tagged_spec (View.le.refl (View.of w')) (hL.mono h1) ht h3.symm (by omega) hfb (SlA.ownK h2 h4)
  have hR := tagd_length (intsB t) (frB S l xs.length (xs.flatMap (encI 7)))
  unfold BRs at kE
  clear hfb
  generalize hFd : frB S l xs.length (xs.flatMap (encI 7)) = F at *
  have hF0 : 0 < F.length := by rw [← hFd, frB_length]; omega
  generalize tagd (intsB t) F = R at *
  refine enterF (M := M) Tryd.func19 rfl rfl rfl rfl hM ?_
  repeat' first
    | apply cw_seq
    | (refine cw_region_id 0 ?_; (apply ol_val; exact rfl; first | (apply s_boxN; exact rfl; intro bk5) | (apply s_box1; exact rfl; exact rfl; intro bk5)); (apply ol_val; exact rfl; apply s_allocK; exact zk_23; intro bk8); (apply ol_as; exact rfl; exact rfl); (apply ol_nil))
    | (refine cw_region_id 1 ?_; (apply ol_fa; exact rfl; exact rfl; exact fd_25_0; (first | exact Nat.zero_add _ | exact Nat.add_zero _ | exact rfl)); (apply ol_val; exact rfl; apply stp_pur; apply s_sliceP; exact rfl; exact ar_23; exact sz_5; exact rfl; exact rfl; exact rfl; (intro h; first | exact rfl | cases h); (first | omega | (simp; omega) | (simp; done)); (first | omega | (simp; omega) | (simp; done)); (first | omega | (simp; omega) | (simp; done))); (apply ol_val; exact rfl; apply stp_pur; apply s_buildS; exact rfl; exact fs_41; exact zb_41; (focus ((repeat (first | exact rfl | constructor)); done))); (apply ol_mv; exact rfl; exact rfl); (apply ol_val; exact rfl; apply s_convSB; exact rfl; exact us_9; exact el_38; exact tdInt_eq ti_5; intro bk17 ck17 sk17 ok17); (apply ol_val; exact rfl; apply stp_pur; apply s_buildS; exact rfl; exact fs_41; exact zb_41; (focus ((repeat (first | exact rfl | constructor)); done))); (apply ol_val; exact rfl; apply s_buildSl; exact rfl; exact el_39; exact sz_41; exact zb_41; (focus ((repeat constructor); done)); exact rfl; exact rfl; (exact Nat.le_of_ble_eq_true rfl); (focus ((repeat constructor); done)); (focus ((repeat (first | exact Fil.nil | (apply Fil.one; exact rfl; exact rfl; (repeat (first | exact SetAt.zero | apply SetAt.succ))) | (apply Fil.agg; exact rfl; exact rfl; (repeat (first | exact SetN.nil | (apply SetN.cons; (repeat (first | exact SetAt.zero | apply SetAt.succ))))); (exact Nat.le_of_ble_eq_true rfl)))); done)); intro bk19); (apply ol_as; exact rfl; exact rfl); (apply ol_nil))
    | (refine cw_region_id 2 ?_; (apply ol_mv; exact rfl; exact rfl); (apply ol_mv; exact rfl; exact rfl); (apply ol_val; exact rfl; first | (apply s_append_e; exact rfl; exact rfl; (focus ((repeat constructor); done)); exact el_39; exact sz_41; exact zb_41; exact rfl; exact by_41; (first | exact (fun _ => rfl) | (intro _; exact s.at_ (by omega))); (first | (apply RdN.own; (focus ((repeat constructor); done)); (focus ((repeat (first | exact rfl | constructor)); done))) | (apply RdN.view; exact s.all It.enc_length)); (first | exact rfl | exact ones_flat It.ones xs); (first | omega | (simp; omega) | (simp; done)); (first | omega | (simp; omega) | (simp; done)); intro rk23 sk23 ck23 ok23) | (apply s_append_r; exact rfl; exact rfl; (focus ((repeat constructor); done)); (first | exact rfl | exact (List.append_nil _).symm); exact el_39; exact sz_41; exact zb_41; exact rfl; exact by_41; (first | exact SO.nil _ | assumption | (exact ⟨by simp, by simp, Nat.le_refl _, by simp⟩)); (first | exact (fun _ => rfl) | (intro _; exact s.at_ (by omega))); (first | (apply RdN.own; (focus ((repeat constructor); done)); (focus ((repeat (first | exact rfl | constructor)); done))) | (apply RdN.view; exact s.all It.enc_length)); (first | exact rfl | exact ones_flat It.ones xs); (first | omega | (simp; omega) | (simp; done)); (first | omega | (simp; omega) | (simp; done)); intro rk23 sk23 ck23 ok23) | (apply s_append_b; exact rfl; exact rfl; (focus ((repeat constructor); done)); (first | exact rfl | exact (List.append_nil _).symm); exact el_39; exact sz_41; exact zb_41; exact rfl; exact by_41; (first | exact SO.nil _ | assumption | (exact ⟨by simp, by simp, Nat.le_refl _, by simp⟩)); (first | exact (fun _ => rfl) | (intro _; exact s.at_ (by omega))); (first | (apply RdN.own; (focus ((repeat constructor); done)); (focus ((repeat (first | exact rfl | constructor)); done))) | (apply RdN.view; exact s.all It.enc_length)); (first | exact rfl | exact ones_flat It.ones xs); (first | omega | (simp; omega) | (simp; done)); (first | omega | (simp; omega) | (simp; done)); intro rk23 sk23 ck23 ok23) | (apply s_append_n; exact rfl; exact rfl; (focus ((repeat constructor); done)); exact el_39; exact sz_41; exact zb_41; exact rfl; exact by_41; (first | exact (fun _ => rfl) | (intro _; exact s.at_ (by omega))); (first | (apply RdN.own; (focus ((repeat constructor); done)); (focus ((repeat (first | exact rfl | constructor)); done))) | (apply RdN.view; exact s.all It.enc_length)); (first | exact rfl | exact ones_flat It.ones xs); (first | omega | (simp; omega) | (simp; done)); (first | omega | (simp; omega) | (simp; done)); intro rk23 sk23 ck23 ok23)); (apply ol_val; exact rfl; apply stp_pur; apply s_buildS; exact rfl; exact fs_41; exact zb_41; (focus ((repeat (first | exact rfl | constructor)); done))); (apply ol_val; exact rfl; apply s_call; exact rfl; exact gf_29; (intro w' hw'; exact kE w' hw'.le (hw'.ok_ (by (repeat (first | exact Has.here | apply Has.there)))) (hw'.ok_ (by (repeat (first | exact Has.here | apply Has.there)))) (hw'.ok_ (by (repeat (first | exact Has.here | apply Has.there)))) (fun h => by have := ok23.empty h; omega)); ((intro v new h; obtain ⟨u25, rfl, r25, A25, c25, s25, rfl, rfl, so25⟩ := h))); (apply ol_mv; exact rfl; exact rfl); (apply ol_ex; exact rfl; exact rfl; exact rfl); (apply ol_ex; exact rfl; exact rfl; exact rfl); (apply ol_as; exact rfl; exact rfl); (apply ol_as; exact rfl; exact rfl); (apply ol_nil))
    | (refine cw_region_id 3 ?_; (apply ol_mv; exact rfl; exact rfl); (apply ol_val; exact rfl; apply stp_cmp; apply s_neq; exact rfl; exact rfl; all_goals (intro hc29; try (exfalso; (first | exact hc29 rfl | omega)))); all_goals (apply ol_nil))
    | (refine cw_region_id 5 ?_; (apply ol_mv; exact rfl; exact rfl); (apply ol_mv; exact rfl; exact rfl); (apply ol_val; exact rfl; apply s_callv; exact rfl; exact gf_21; (intro w' hw'; exact htag w' hw'.le (hw'.ok_ (by (repeat (first | exact Has.here | apply Has.there)))) rfl (fun h => SO.emp so25 h))); (apply ol_ex; exact rfl; exact rfl; exact rfl); (apply ol_ex; exact rfl; exact rfl; exact rfl); (apply ol_eff; apply s_storeK; exact rfl; exact rfl; exact sz_23; (focus ((repeat constructor); done)); (first | assumption | (rw [List.length_replicate])); (first | assumption | (rw [List.length_replicate]))); (apply ol_as; exact rfl; exact rfl); (apply ol_nil))
    | (apply cw_cond_true; exact rfl; (first | exact rfl | assumption))
    | (apply cw_cond_false; exact rfl; (first | exact rfl | assumption))
    | apply cw_skip
    | apply cw_ret
    | apply cw_block
    | apply cw_exit
  refine ends [] (RVal.cellN rfl rfl rfl (RdN.own (by (repeat (first | exact Has.here | apply Has.there))) (getNK_all hR)) (RVal.tmp rfl RVal.nil)) Pick.nil ?_
  rfl
end Go.Proofs.YtkbbbflojebfgaaDoor

/-
  The walks of New, Digest, Absorb and Challenge.
-/
namespace Go.Fw
open Go Go.RowKit
theorem Fil.z32 {p : Nat → Option (Nat × Nat)} : Fil p (List.replicate 32 (.int .u8 0) ++ [.int .i64 0]) [] (trE (List.replicate 32 0) 0) := Fil.nil
end Go.Fw
namespace Go.Proofs.YtkbbbflojebfgaaDoor
set_option maxRecDepth 20000
set_option linter.unusedSimpArgs false
set_option linter.unusedVariables false
open Go Go.Fw
abbrev trB : ByteArray := ⟨#[115, 112, 101, 99, 105, 101, 47, 116, 114, 97, 110, 115, 99, 114, 105, 112, 116]⟩
abbrev chB : ByteArray := ⟨#[115, 112, 101, 99, 105, 101, 47, 99, 104, 97, 108, 108, 101, 110, 103, 101]⟩
abbrev abB : ByteArray := ⟨#[115, 112, 101, 99, 105, 101, 47, 97, 98, 115, 111, 114, 98]⟩
abbrev diB : ByteArray := ⟨#[115, 112, 101, 99, 105, 101, 47, 100, 105, 103, 101, 115, 116]⟩
def newE (l : List Int) : List Int := tagd (intsB trB) l
def chE (S l : List Int) : List Int := tagd (intsB chB) (frB S l 0 [])
def diE (S l : List Int) : List Int := tagd (intsB diB) (frB S l 0 [])
def abE (S l E : List Int) : List Int := tagd (intsB abB) (frB S l 1 E)
theorem newE_length (l : List Int) : (newE l).length = 32 := tagd_length _ _
theorem chE_length (S l : List Int) : (chE S l).length = 32 := tagd_length _ _
theorem diE_length (S l : List Int) : (diE S l).length = 32 := tagd_length _ _
theorem abE_length (S l E : List Int) : (abE S l E).length = 32 := tagd_length _ _
theorem isB_newE (l : List Int) : isB (newE l) := isB_tagd _ _
theorem isB_chE (S l : List Int) : isB (chE S l) := isB_tagd _ _
theorem isB_diE (S l : List Int) : isB (diE S l) := isB_tagd _ _
theorem isB_abE (S l E : List Int) : isB (abE S l E) := isB_tagd _ _
/-- What New, Digest, Absorb, Challenge say. -/
def newR (l : List Int) : List Int × Int := if labB l then (newE l, 0) else (z32, 1)
def diR (S : List Int) (c : Int) (l : List Int) : List Int × Int := if tOk c ∧ labB l = true then (diE S l, 0) else (z32, 1)
def abR (S : List Int) (c : Int) (l E : List Int) : List Int × Int × Int := if tOk c ∧ labB l = true then (if c = 1000 then (z32, 0, 5) else (abE S l E, c + 1, 0)) else (z32, 0, 1)
def chN (S l : List Int) (m : Int) : Int := numB (chE S l) 16 % m
def lfN (n : Int) : List Int := 1 :: bI 8 (u64 n)
structure CR where
  S : List Int
  c : Int
  v : Int
  e : Int
def chR (S : List Int) (c : Int) (l : List Int) (m : Int) : CR := if tOk c ∧ labB l = true then (if m < 2 ∨ 2305843009213693952 ≤ m then ⟨z32, 0, 0, 2⟩ else if c = 1000 then ⟨z32, 0, 0, 5⟩ else ⟨abE S l (lfN (chN S l m)), c + 1, chN S l m, 0⟩) else ⟨z32, 0, 0, 1⟩
theorem labB_len {l : List Int} (h : labB l = true) : 1 ≤ l.length ∧ l.length ≤ 24 := by
  unfold labB at h
  rw [Bool.and_eq_true, decide_eq_true_eq] at h
  exact h.1
end Go.Proofs.YtkbbbflojebfgaaDoor
namespace Go.Proofs.YtkbbbflojebfgaaDoor
set_option maxRecDepth 20000
set_option linter.unusedSimpArgs false
set_option linter.unusedVariables false
open Go Go.Fw
attribute [local irreducible] CW OL OD FX Stp FnC FnV FnA Ret bI encI okI trE sha strOf frB encP tagd newE chE diE abE labB numB
set_option maxHeartbeats 800000
theorem new_spec {M : View} {w : World} (hM : View.le M (View.of w)) (hL : Laid M) {l : List Int} (hlb : ∀ x ∈ l, 0 ≤ x ∧ x ≤ 255) (hll : l.length ≤ 100) :
    FnC Tryd.prog 8 [.string (strOf l)] w (fun v _ => v = .tuple #[.agg (trE (newR l).1 0).toArray, .int .i64 (newR l).2]) := by
  have kl := fun (w' : World) => label_spec w' hlb
  refine enterF (M := M) Tryd.func8 rfl rfl rfl rfl hM ?_
  unfold newR
  cases hv : labB l with
  | false =>
    rw [hv] at kl
    rw [if_neg (by simp)]
    repeat' first
      | apply cw_seq
      | (refine cw_region_id 0 ?_; (apply ol_val; exact rfl; apply s_alloc; exact zb_25; (focus ((repeat constructor); done)); intro bk2); (apply ol_as; exact rfl; exact rfl); (apply ol_nil))
      | (refine cw_region_id 1 ?_; (apply ol_mv; exact rfl; exact rfl); (apply ol_val; exact rfl; apply s_callv; exact rfl; exact gf_18; (intro w' hw'; exact kl w')); (apply ol_val; exact rfl; apply stp_pur; first | (apply s_not_t; exact rfl; (first | exact rfl | assumption)) | (apply s_not_f; exact rfl; (first | exact rfl | assumption)) | (apply s_not; exact rfl)); (apply ol_nil))
      | (refine cw_region_id 2 ?_; (apply ol_val; exact rfl; apply stp_pur; first | (apply s_buildS; exact rfl; exact fs_25; exact zb_25; first | exact Fil.tr hR rfl | exact Fil.tr0 hR rfl rfl | exact Fil.z32) | (apply s_buildS; exact rfl; exact fs_25; exact zb_25; (focus ((repeat (first | exact Fil.nil | (apply Fil.one; exact rfl; exact rfl; (repeat (first | exact SetAt.zero | apply SetAt.succ))) | (apply Fil.agg; exact rfl; exact rfl; (repeat (first | exact SetN.nil | (apply SetN.cons; (repeat (first | exact SetAt.zero | apply SetAt.succ))))); (exact Nat.le_of_ble_eq_true rfl)))); done)))); (apply ol_eff; first | (apply s_storeN; exact rfl; exact rfl; exact sz_25; exact rfl; exact rfl; (focus ((repeat constructor); done)); (focus ((repeat constructor); done))) | (apply s_storeN; exact rfl; exact rfl; exact sz_25; (first | exact trE_length hR | exact trE_length z32_length); exact trE_ones; (focus ((repeat (first | exact Repl.here | apply Repl.there)); done)); (first | exact setN_all (trE_length hR).symm | exact setN_all (trE_length z32_length).symm))); (apply ol_as; exact rfl; exact rfl); (apply ol_nil))
      | (apply cw_cond_true; exact rfl; (first | exact rfl | assumption))
      | (apply cw_cond_false; exact rfl; (first | exact rfl | assumption))
      | apply cw_skip
      | apply cw_ret
      | apply cw_block
      | apply cw_exit
    refine ends [] (RVal.cellN rfl rfl rfl (RdN.own (by (repeat (first | exact Has.here | apply Has.there))) (getTr_all z32_length)) (RVal.tmp rfl RVal.nil)) Pick.nil ?_
    rfl
  | true =>
    have hl1 := labB_len hv
    rw [hv] at kl
    rw [if_pos rfl]
    have htag : ∀ (w' : World) {r : Option Nat} {A : Option Addr} {c : Nat} {sp : List Value}, View.le M (View.of w') → OB.ok ⟨r, flat (eK .u8) (intsB (strOf l)) ++ sp, 5⟩ w' → (r = none → l = []) → FnC Tryd.prog 21 [.string trB, .slice (base r A) (strOf l).size c] w' (fun v _ => v = .tuple #[.agg (flat (eK .u8) (newE l)).toArray, .int .i64 0]) := fun w' r A c sp h1 h2 h4 => by
      rw [intsB_strOf hlb] at h2
      rw [strOf_size]
      unfold newE
      exact tagged_spec (View.le.refl (View.of w')) (hL.mono h1) (t := trB) (by decide) rfl (by omega) (isB.of hlb) (SlA.ownK h2 h4)
    have hR : (newE l).length = 32 := newE_length _
    generalize newE l = R at *
    repeat' first
      | apply cw_seq
      | (refine cw_region_id 0 ?_; (apply ol_val; exact rfl; apply s_alloc; exact zb_25; (focus ((repeat constructor); done)); intro bk2); (apply ol_as; exact rfl; exact rfl); (apply ol_nil))
      | (refine cw_region_id 1 ?_; (apply ol_mv; exact rfl; exact rfl); (apply ol_val; exact rfl; apply s_callv; exact rfl; exact gf_18; (intro w' hw'; exact kl w')); (apply ol_val; exact rfl; apply stp_pur; first | (apply s_not_t; exact rfl; (first | exact rfl | assumption)) | (apply s_not_f; exact rfl; (first | exact rfl | assumption)) | (apply s_not; exact rfl)); (apply ol_nil))
      | (refine cw_region_id 3 ?_; (apply ol_mv; exact rfl; exact rfl); (apply ol_val; exact rfl; apply s_convSB; exact rfl; exact us_9; exact el_38; exact tdInt_eq ti_5; intro bk12 ck12 sk12 ok12); (apply ol_val; exact rfl; apply s_callv; exact rfl; exact gf_21; (intro w' hw'; exact htag w' hw'.le (hw'.ok_ (by (repeat (first | exact Has.here | apply Has.there)))) (fun h => by cases h))); (apply ol_mv; exact rfl; exact rfl); (apply ol_ex; exact rfl; exact rfl; exact rfl); (apply ol_ex; exact rfl; exact rfl; exact rfl); (apply ol_val; exact rfl; apply s_allocK; exact zk_23; intro bk4); (apply ol_eff; first | (apply s_storeK; exact rfl; exact rfl; exact sz_23; (focus ((repeat constructor); done)); (first | assumption | (rw [List.length_replicate])); (first | assumption | (rw [List.length_replicate]))) | (apply s_storeN; exact rfl; exact rfl; exact sz_23; (first | exact trE_length hR | exact trE_length z32_length); exact trE_ones; (focus ((repeat (first | exact Repl.here | apply Repl.there)); done)); (first | exact setN_all (trE_length hR).symm | exact setN_all (trE_length z32_length).symm))); (apply ol_as; exact rfl; exact rfl); (apply ol_nil))
      | (refine cw_region_id 4 ?_; (apply ol_ldN; exact rfl; exact rfl; exact rfl; exact sz_23; (first | (apply RdN.own; (focus ((repeat constructor); done)); (apply getNK_all; (first | assumption | (rw [List.length_replicate])))) | (apply RdN.own; (repeat (first | exact Has.here | apply Has.there)); (first | exact getTr_all hS | exact getTr_c hS | exact getTr_S hS)))); (apply ol_val; exact rfl; apply stp_pur; first | (apply s_buildS; exact rfl; exact fs_25; exact zb_25; first | exact Fil.tr hR rfl | exact Fil.tr0 hR rfl rfl | exact Fil.z32) | (apply s_buildS; exact rfl; exact fs_25; exact zb_25; (focus ((repeat (first | exact Fil.nil | (apply Fil.one; exact rfl; exact rfl; (repeat (first | exact SetAt.zero | apply SetAt.succ))) | (apply Fil.agg; exact rfl; exact rfl; (repeat (first | exact SetN.nil | (apply SetN.cons; (repeat (first | exact SetAt.zero | apply SetAt.succ))))); (exact Nat.le_of_ble_eq_true rfl)))); done)))); (apply ol_mv; exact rfl; exact rfl); (apply ol_eff; first | (apply s_storeN; exact rfl; exact rfl; exact sz_25; exact rfl; exact rfl; (focus ((repeat constructor); done)); (focus ((repeat constructor); done))) | (apply s_storeN; exact rfl; exact rfl; exact sz_25; (first | exact trE_length hR | exact trE_length z32_length); exact trE_ones; (focus ((repeat (first | exact Repl.here | apply Repl.there)); done)); (first | exact setN_all (trE_length hR).symm | exact setN_all (trE_length z32_length).symm))); (apply ol_as; exact rfl; exact rfl); (apply ol_nil))
      | (apply cw_cond_true; exact rfl; (first | exact rfl | assumption))
      | (apply cw_cond_false; exact rfl; (first | exact rfl | assumption))
      | apply cw_skip
      | apply cw_ret
      | apply cw_block
      | apply cw_exit
    refine ends [] (RVal.cellN rfl rfl rfl (RdN.own (by (repeat (first | exact Has.here | apply Has.there))) (getTr_all hR)) (RVal.tmp rfl RVal.nil)) Pick.nil ?_
    rfl
theorem digest_spec {M : View} {w : World} (hM : View.le M (View.of w)) (hL : Laid M) {S : List Int} (hS : S.length = 32) (hSb : isB S) (c : Int) {l : List Int} (hlb : ∀ x ∈ l, 0 ≤ x ∧ x ≤ 255) :
    FnC Tryd.prog 13 [.agg (trE S c).toArray, .string (strOf l)] w (fun v _ => v = .tuple #[.agg (flat (eK .u8) (diR S c l).1).toArray, .int .i64 (diR S c l).2]) := by
  have kl := fun (w' : World) => label_spec w' hlb
  have kv := fun (w' : World) => tvalid_spec w' hS c
  refine enterF (M := M) Tryd.func13 rfl rfl rfl rfl hM ?_
  unfold diR
  by_cases hv : tOk c
  · rw [decide_eq_true hv] at kv
    cases hlv : labB l with
    | true =>
      rw [if_pos ⟨hv, rfl⟩]
      rw [hlv] at kl
      have kh := fun (w' : World) (h : View.le M (View.of w')) => hash_spec h hL hS hSb c hlb (labB_len hlv) (t := diB) (by decide) (xs := []) (k := 0) (cc := 0) (a := none) (b := 0) (o := 0) rfl (by omega) SlA.none' (fun x hx => by cases hx) (fun x hx => by cases hx) (by simp)
      have hE : tagd (intsB diB) (frB S l 0 (([] : List (It 7)).flatMap (encI 7))) = diE S l := by unfold diE; rfl
      rw [hE] at kh
      have hR : (diE S l).length = 32 := diE_length _ _
      generalize diE S l = R at *
      repeat' first
        | apply cw_seq
        | (refine cw_region_id 0 ?_; (apply ol_val; exact rfl; first | (apply s_boxN; exact rfl; intro bk2) | (apply s_box1; exact rfl; exact rfl; intro bk2)); (apply ol_val; exact rfl; apply s_allocK; exact zk_23; intro bk4); (apply ol_as; exact rfl; exact rfl); (apply ol_nil))
        | (refine cw_region_id 1 ?_; (apply ol_ldN; exact rfl; exact rfl; exact rfl; exact sz_25; (first | (apply RdN.own; (focus ((repeat constructor); done)); (focus ((repeat (first | exact rfl | constructor)); done))) | (apply RdN.own; (repeat (first | exact Has.here | apply Has.there)); (first | exact getTr_all hS | exact getTr_c hS | exact getTr_S hS)))); (apply ol_val; exact rfl; apply s_callv; exact rfl; exact gf_17; (intro w' hw'; exact kv w')); (apply ol_val; exact rfl; apply stp_pur; first | (apply s_not_t; exact rfl; (first | exact rfl | assumption)) | (apply s_not_f; exact rfl; (first | exact rfl | assumption)) | (apply s_not; exact rfl)); (apply ol_mv; exact rfl; exact rfl); (first | (apply ol_gskip; exact rfl; exact rfl; (first | exact rfl | assumption); exact rfl) | (apply ol_gval; exact rfl; exact rfl; exact rfl; (first | exact rfl | assumption); apply stp_pur; apply s_move; exact rfl)); (first | (apply ol_gskip; exact rfl; exact rfl; (first | exact rfl | assumption); exact rfl) | (apply ol_gval; exact rfl; exact rfl; exact rfl; (first | exact rfl | assumption); apply s_callv; exact rfl; exact gf_18; (intro w' hw'; exact kl w'))); (first | (apply ol_gskip; exact rfl; exact rfl; (first | exact rfl | assumption); exact rfl) | (apply ol_gval; exact rfl; exact rfl; exact rfl; (first | exact rfl | assumption); apply stp_pur; first | (apply s_not_t; exact rfl; (first | exact rfl | assumption)) | (apply s_not_f; exact rfl; (first | exact rfl | assumption)) | (apply s_not; exact rfl))); (apply ol_val; exact rfl; apply stp_pur; first | (apply s_pick_t; exact rfl; (first | exact rfl | assumption); exact rfl) | (apply s_pick_f; exact rfl; (first | exact rfl | assumption); exact rfl)); (apply ol_nil))
        | (refine cw_region_id 3 ?_; (apply ol_ldN; exact rfl; exact rfl; exact rfl; exact sz_25; (first | (apply RdN.own; (focus ((repeat constructor); done)); (focus ((repeat (first | exact rfl | constructor)); done))) | (apply RdN.own; (repeat (first | exact Has.here | apply Has.there)); (first | exact getTr_all hS | exact getTr_c hS | exact getTr_S hS)))); (apply ol_mv; exact rfl; exact rfl); (apply ol_val; exact rfl; apply s_callv; exact rfl; exact gf_19; (intro w' hw'; exact kh w' hw'.le)); (apply ol_ex; exact rfl; exact rfl; exact rfl); (apply ol_ex; exact rfl; exact rfl; exact rfl); (apply ol_eff; first | (apply s_storeK; exact rfl; exact rfl; exact sz_23; (focus ((repeat constructor); done)); (first | assumption | (rw [List.length_replicate])); (first | assumption | (rw [List.length_replicate]))) | (apply s_storeN; exact rfl; exact rfl; exact sz_23; (first | exact trE_length hR | exact trE_length z32_length); exact trE_ones; (focus ((repeat (first | exact Repl.here | apply Repl.there)); done)); (first | exact setN_all (trE_length hR).symm | exact setN_all (trE_length z32_length).symm))); (apply ol_as; exact rfl; exact rfl); (apply ol_nil))
        | (apply cw_cond_true; exact rfl; (first | exact rfl | assumption))
        | (apply cw_cond_false; exact rfl; (first | exact rfl | assumption))
        | apply cw_skip
        | apply cw_ret
        | apply cw_block
        | apply cw_exit
      refine ends [] (RVal.cellN rfl rfl rfl (RdN.own (by (repeat (first | exact Has.here | apply Has.there))) (getNK_all hR)) (RVal.tmp rfl RVal.nil)) Pick.nil ?_
      rfl
    | false =>
      rw [if_neg (by simp)]
      rw [hlv] at kl
      repeat' first
        | apply cw_seq
        | (refine cw_region_id 0 ?_; (apply ol_val; exact rfl; first | (apply s_boxN; exact rfl; intro bk2) | (apply s_box1; exact rfl; exact rfl; intro bk2)); (apply ol_val; exact rfl; apply s_allocK; exact zk_23; intro bk4); (apply ol_as; exact rfl; exact rfl); (apply ol_nil))
        | (refine cw_region_id 1 ?_; (apply ol_ldN; exact rfl; exact rfl; exact rfl; exact sz_25; (first | (apply RdN.own; (focus ((repeat constructor); done)); (focus ((repeat (first | exact rfl | constructor)); done))) | (apply RdN.own; (repeat (first | exact Has.here | apply Has.there)); (first | exact getTr_all hS | exact getTr_c hS | exact getTr_S hS)))); (apply ol_val; exact rfl; apply s_callv; exact rfl; exact gf_17; (intro w' hw'; exact kv w')); (apply ol_val; exact rfl; apply stp_pur; first | (apply s_not_t; exact rfl; (first | exact rfl | assumption)) | (apply s_not_f; exact rfl; (first | exact rfl | assumption)) | (apply s_not; exact rfl)); (apply ol_mv; exact rfl; exact rfl); (first | (apply ol_gskip; exact rfl; exact rfl; (first | exact rfl | assumption); exact rfl) | (apply ol_gval; exact rfl; exact rfl; exact rfl; (first | exact rfl | assumption); apply stp_pur; apply s_move; exact rfl)); (first | (apply ol_gskip; exact rfl; exact rfl; (first | exact rfl | assumption); exact rfl) | (apply ol_gval; exact rfl; exact rfl; exact rfl; (first | exact rfl | assumption); apply s_callv; exact rfl; exact gf_18; (intro w' hw'; exact kl w'))); (first | (apply ol_gskip; exact rfl; exact rfl; (first | exact rfl | assumption); exact rfl) | (apply ol_gval; exact rfl; exact rfl; exact rfl; (first | exact rfl | assumption); apply stp_pur; first | (apply s_not_t; exact rfl; (first | exact rfl | assumption)) | (apply s_not_f; exact rfl; (first | exact rfl | assumption)) | (apply s_not; exact rfl))); (apply ol_val; exact rfl; apply stp_pur; first | (apply s_pick_t; exact rfl; (first | exact rfl | assumption); exact rfl) | (apply s_pick_f; exact rfl; (first | exact rfl | assumption); exact rfl)); (apply ol_nil))
        | (refine cw_region_id 2 ?_; (apply ol_val; exact rfl; apply stp_pur; apply s_buildZ; exact ar_23; exact sz_5; exact zk_23); (apply ol_eff; first | (apply s_storeK; exact rfl; exact rfl; exact sz_23; (focus ((repeat constructor); done)); (first | assumption | (rw [List.length_replicate])); (first | assumption | (rw [List.length_replicate]))) | (apply s_storeN; exact rfl; exact rfl; exact sz_23; (first | exact trE_length hR | exact trE_length z32_length); exact trE_ones; (focus ((repeat (first | exact Repl.here | apply Repl.there)); done)); (first | exact setN_all (trE_length hR).symm | exact setN_all (trE_length z32_length).symm))); (apply ol_as; exact rfl; exact rfl); (apply ol_nil))
        | (apply cw_cond_true; exact rfl; (first | exact rfl | assumption))
        | (apply cw_cond_false; exact rfl; (first | exact rfl | assumption))
        | apply cw_skip
        | apply cw_ret
        | apply cw_block
        | apply cw_exit
      refine ends [] (RVal.cellN rfl rfl rfl (RdN.own (by (repeat (first | exact Has.here | apply Has.there))) (getNK_all z32_length)) (RVal.tmp rfl RVal.nil)) Pick.nil ?_
      rfl
  · rw [decide_eq_false hv] at kv
    rw [if_neg (fun h => hv h.1)]
    repeat' first
      | apply cw_seq
      | (refine cw_region_id 0 ?_; (apply ol_val; exact rfl; first | (apply s_boxN; exact rfl; intro bk2) | (apply s_box1; exact rfl; exact rfl; intro bk2)); (apply ol_val; exact rfl; apply s_allocK; exact zk_23; intro bk4); (apply ol_as; exact rfl; exact rfl); (apply ol_nil))
      | (refine cw_region_id 1 ?_; (apply ol_ldN; exact rfl; exact rfl; exact rfl; exact sz_25; (first | (apply RdN.own; (focus ((repeat constructor); done)); (focus ((repeat (first | exact rfl | constructor)); done))) | (apply RdN.own; (repeat (first | exact Has.here | apply Has.there)); (first | exact getTr_all hS | exact getTr_c hS | exact getTr_S hS)))); (apply ol_val; exact rfl; apply s_callv; exact rfl; exact gf_17; (intro w' hw'; exact kv w')); (apply ol_val; exact rfl; apply stp_pur; first | (apply s_not_t; exact rfl; (first | exact rfl | assumption)) | (apply s_not_f; exact rfl; (first | exact rfl | assumption)) | (apply s_not; exact rfl)); (apply ol_mv; exact rfl; exact rfl); (first | (apply ol_gskip; exact rfl; exact rfl; (first | exact rfl | assumption); exact rfl) | (apply ol_gval; exact rfl; exact rfl; exact rfl; (first | exact rfl | assumption); apply stp_pur; apply s_move; exact rfl)); (first | (apply ol_gskip; exact rfl; exact rfl; (first | exact rfl | assumption); exact rfl) | (apply ol_gval; exact rfl; exact rfl; exact rfl; (first | exact rfl | assumption); apply s_callv; exact rfl; exact gf_18; (intro w' hw'; exact kl w'))); (first | (apply ol_gskip; exact rfl; exact rfl; (first | exact rfl | assumption); exact rfl) | (apply ol_gval; exact rfl; exact rfl; exact rfl; (first | exact rfl | assumption); apply stp_pur; first | (apply s_not_t; exact rfl; (first | exact rfl | assumption)) | (apply s_not_f; exact rfl; (first | exact rfl | assumption)) | (apply s_not; exact rfl))); (apply ol_val; exact rfl; apply stp_pur; first | (apply s_pick_t; exact rfl; (first | exact rfl | assumption); exact rfl) | (apply s_pick_f; exact rfl; (first | exact rfl | assumption); exact rfl)); (apply ol_nil))
      | (refine cw_region_id 2 ?_; (apply ol_val; exact rfl; apply stp_pur; apply s_buildZ; exact ar_23; exact sz_5; exact zk_23); (apply ol_eff; first | (apply s_storeK; exact rfl; exact rfl; exact sz_23; (focus ((repeat constructor); done)); (first | assumption | (rw [List.length_replicate])); (first | assumption | (rw [List.length_replicate]))) | (apply s_storeN; exact rfl; exact rfl; exact sz_23; (first | exact trE_length hR | exact trE_length z32_length); exact trE_ones; (focus ((repeat (first | exact Repl.here | apply Repl.there)); done)); (first | exact setN_all (trE_length hR).symm | exact setN_all (trE_length z32_length).symm))); (apply ol_as; exact rfl; exact rfl); (apply ol_nil))
      | (apply cw_cond_true; exact rfl; (first | exact rfl | assumption))
      | (apply cw_cond_false; exact rfl; (first | exact rfl | assumption))
      | apply cw_skip
      | apply cw_ret
      | apply cw_block
      | apply cw_exit
    refine ends [] (RVal.cellN rfl rfl rfl (RdN.own (by (repeat (first | exact Has.here | apply Has.there))) (getNK_all z32_length)) (RVal.tmp rfl RVal.nil)) Pick.nil ?_
    rfl
end Go.Proofs.YtkbbbflojebfgaaDoor

/-
  The walks of Absorb and Challenge.
-/
namespace Go.Proofs.YtkbbbflojebfgaaDoor
set_option maxRecDepth 20000
set_option linter.unusedSimpArgs false
set_option linter.unusedVariables false
open Go Go.Fw
theorem flat_one' {x : It 7} : flat It.enc [x] = x.enc ++ [] := rfl
end Go.Proofs.YtkbbbflojebfgaaDoor
namespace Go.Proofs.YtkbbbflojebfgaaDoor
set_option maxRecDepth 20000
set_option linter.unusedSimpArgs false
set_option linter.unusedVariables false
open Go Go.Fw
attribute [local irreducible] CW OL OD FX Stp FnC FnV FnA Ret bI encI okI trE sha strOf frB encP tagd newE chE diE abE labB numB
set_option maxHeartbeats 800000
theorem absorb_spec {M : View} {w : World} (hM : View.le M (View.of w)) (hL : Laid M) {S : List Int} (hS : S.length = 32) (hSb : isB S) (c : Int) {l : List Int} (hlb : ∀ x ∈ l, 0 ≤ x ∧ x ≤ 255) {x : It 7} (hx : ItV M 7 x) (hok : okI 7 x = true) (hlen : (encI 7 x).length ≤ 16000) :
    FnC Tryd.prog 10 [.agg (trE S c).toArray, .string (strOf l), .agg x.enc.toArray] w (fun v _ => v = .tuple #[.agg (trE (abR S c l (encI 7 x)).1 (abR S c l (encI 7 x)).2.1).toArray, .int .i64 (abR S c l (encI 7 x)).2.2]) := by
  have kl := fun (w' : World) => label_spec w' hlb
  have kv := fun (w' : World) => tvalid_spec w' hS c
  have kh : labB l = true → ∀ (w' : World) {q n : Nat}, View.le M (View.of w') → OB.ok ⟨some q, x.enc, 41⟩ w' → FnC Tryd.prog 19 [.string abB, .agg (trE S c).toArray, .string (strOf l), .slice (some ⟨q, 0, none⟩) 1 n] w' (fun v _ => v = .tuple #[.agg (flat (eK .u8) (abE S l (encI 7 x))).toArray, .int .i64 0]) := fun hlv w' q n h1 h2 => by
    have hs : SlA (View.of w') It.enc 4 (base (some q) none) [x] q 0 := SlA.own (A := none) It.enc_length (sp := []) (by rw [flat_one', List.append_nil, List.append_nil]; exact h2) (fun h => by cases h)
    have hE : abE S l (encI 7 x) = tagd (intsB abB) (frB S l 1 ([x].flatMap (encI 7))) := by unfold abE; simp
    rw [hE]
    exact hash_spec (View.le.refl _) (hL.mono h1) hS hSb c hlb (labB_len hlv) (t := abB) (by decide) rfl (by omega) hs (fun y hy => by
      rw [List.mem_singleton] at hy; subst hy; exact ItV.mono h1 hx) (fun y hy => by
      rw [List.mem_singleton] at hy; subst hy; exact hok) (by simpa using hlen)
  unfold It.enc at *
  generalize x.hd = h at *
  obtain ⟨k, n, ⟨xs, Ba, Bb, Bo, Bc⟩, La, Lb, Lo, Lc, m⟩ := h
  dsimp only at kh ⊢
  refine enterF (M := M) Tryd.func10 rfl rfl rfl rfl hM ?_
  unfold abR
  by_cases hv : tOk c
  · rw [decide_eq_true hv] at kv
    cases hlv : labB l with
    | true =>
      rw [if_pos ⟨hv, rfl⟩]
      rw [hlv] at kl
      have kh := kh hlv
      have hR : (abE S l (encI 7 x)).length = 32 := abE_length _ _ _
      generalize abE S l (encI 7 x) = R at *
      by_cases hc : c = 1000
      · subst hc
        rw [if_pos rfl]
        repeat' first
          | apply cw_seq
          | (refine cw_region_id 0 ?_; (apply ol_val; exact rfl; first | (apply s_boxN; exact rfl; intro bk3) | (apply s_box1; exact rfl; exact rfl; intro bk3)); (apply ol_val; exact rfl; first | (apply s_boxN; exact rfl; intro bk5) | (apply s_box1; exact rfl; exact rfl; intro bk5)); (apply ol_val; exact rfl; apply s_alloc; exact zb_25; (focus ((repeat constructor); done)); intro bk6); (apply ol_as; exact rfl; exact rfl); (apply ol_nil))
          | (refine cw_region_id 1 ?_; (apply ol_ldN; exact rfl; exact rfl; exact rfl; exact sz_25; (first | (apply RdN.own; (focus ((repeat constructor); done)); (focus ((repeat (first | exact rfl | constructor)); done))) | (apply RdN.own; (repeat (first | exact Has.here | apply Has.there)); (first | exact getTr_all hS | exact getTr_c hS | exact getTr_S hS | exact getTr_all hR)))); (apply ol_val; exact rfl; apply s_callv; exact rfl; exact gf_17; (intro w' hw'; exact kv w')); (apply ol_val; exact rfl; apply stp_pur; first | (apply s_not_t; exact rfl; (first | exact rfl | assumption)) | (apply s_not_f; exact rfl; (first | exact rfl | assumption)) | (apply s_not; exact rfl)); (apply ol_mv; exact rfl; exact rfl); (first | (apply ol_gskip; exact rfl; exact rfl; (first | exact rfl | assumption); exact rfl) | (apply ol_gval; exact rfl; exact rfl; exact rfl; (first | exact rfl | assumption); apply stp_pur; apply s_move; exact rfl)); (first | (apply ol_gskip; exact rfl; exact rfl; (first | exact rfl | assumption); exact rfl) | (apply ol_gval; exact rfl; exact rfl; exact rfl; (first | exact rfl | assumption); apply s_callv; exact rfl; exact gf_18; (intro w' hw'; exact kl w'))); (first | (apply ol_gskip; exact rfl; exact rfl; (first | exact rfl | assumption); exact rfl) | (apply ol_gval; exact rfl; exact rfl; exact rfl; (first | exact rfl | assumption); apply stp_pur; first | (apply s_not_t; exact rfl; (first | exact rfl | assumption)) | (apply s_not_f; exact rfl; (first | exact rfl | assumption)) | (apply s_not; exact rfl))); (apply ol_val; exact rfl; apply stp_pur; first | (apply s_pick_t; exact rfl; (first | exact rfl | assumption); exact rfl) | (apply s_pick_f; exact rfl; (first | exact rfl | assumption); exact rfl)); (apply ol_nil))
          | (refine cw_region_id 3 ?_; (apply ol_ldN; exact rfl; exact rfl; exact rfl; exact sz_25; (first | (apply RdN.own; (focus ((repeat constructor); done)); (focus ((repeat (first | exact rfl | constructor)); done))) | (apply RdN.own; (repeat (first | exact Has.here | apply Has.there)); (first | exact getTr_all hS | exact getTr_c hS | exact getTr_S hS | exact getTr_all hR)))); (apply ol_mv; exact rfl; exact rfl); (apply ol_ldN; exact rfl; exact rfl; exact rfl; exact sz_41; (first | (apply RdN.own; (focus ((repeat constructor); done)); (focus ((repeat (first | exact rfl | constructor)); done))) | (apply RdN.own; (repeat (first | exact Has.here | apply Has.there)); (first | exact getTr_all hS | exact getTr_c hS | exact getTr_S hS | exact getTr_all hR)))); (apply ol_val; exact rfl; apply s_buildSl; exact rfl; exact el_39; exact sz_41; exact zb_41; (focus ((repeat constructor); done)); exact rfl; exact rfl; (exact Nat.le_of_ble_eq_true rfl); (focus ((repeat constructor); done)); (focus ((repeat (first | exact Fil.nil | (apply Fil.one; exact rfl; exact rfl; (repeat (first | exact SetAt.zero | apply SetAt.succ))) | (apply Fil.agg; exact rfl; exact rfl; (repeat (first | exact SetN.nil | (apply SetN.cons; (repeat (first | exact SetAt.zero | apply SetAt.succ))))); (exact Nat.le_of_ble_eq_true rfl)))); done)); intro bk23); (apply ol_val; exact rfl; apply s_callv; exact rfl; exact gf_19; (intro w' hw'; exact kh w' hw'.le (hw'.ok_ (by (repeat (first | exact Has.here | apply Has.there)))))); (apply ol_mv; exact rfl; exact rfl); (apply ol_ex; exact rfl; exact rfl; exact rfl); (apply ol_ex; exact rfl; exact rfl; exact rfl); (apply ol_val; exact rfl; apply s_allocK; exact zk_23; intro bk8); (apply ol_eff; first | (apply s_storeK; exact rfl; exact rfl; exact sz_23; (focus ((repeat constructor); done)); (first | assumption | (rw [List.length_replicate])); (first | assumption | (rw [List.length_replicate]))) | (apply s_storeN; exact rfl; exact rfl; exact sz_23; (first | exact trE_length hR | exact trE_length z32_length); exact trE_ones; (focus ((repeat (first | exact Repl.here | apply Repl.there)); done)); (first | exact setN_all (trE_length hR).symm | exact setN_all (trE_length z32_length).symm))); (apply ol_as; exact rfl; exact rfl); (apply ol_nil))
          | (refine cw_region_id 4 ?_; (apply ol_mv; exact rfl; exact rfl); (apply ol_val; exact rfl; apply stp_cmp; apply s_eql; exact rfl; exact rfl; all_goals (intro hc29; try (exfalso; (first | exact hc29 rfl | omega)))); all_goals (apply ol_as; exact rfl; exact rfl); all_goals (apply ol_nil))
          | (refine cw_region_id 6 ?_; (apply ol_mv; exact rfl; exact rfl); (apply ol_val; exact rfl; apply stp_cmp; apply s_neq; exact rfl; exact rfl; all_goals (intro hc33; try (exfalso; (first | exact hc33 rfl | omega)))); all_goals (apply ol_mv; exact rfl; exact rfl); all_goals (first | (apply ol_gskip; exact rfl; exact rfl; (first | exact rfl | assumption); exact rfl) | (apply ol_gval; exact rfl; exact rfl; exact rfl; (first | exact rfl | assumption); apply stp_pur; apply s_fieldAddr'; exact rfl; exact fd_25_1; (first | exact Nat.zero_add _ | exact Nat.add_zero _ | exact rfl))); all_goals (first | (apply ol_gskip; exact rfl; exact rfl; (first | exact rfl | assumption); exact rfl) | (apply ol_gval; exact rfl; exact rfl; exact rfl; (first | exact rfl | assumption); apply stp_pur; apply s_load1; exact rfl; exact rfl; (first | (apply RdN.own; (focus ((repeat constructor); done)); (first | exact GetN.cons rfl GetN.nil | (apply getN_ints_app; (first | omega | (simp; omega) | (simp; done))) | (apply getN_ints; (first | omega | (simp; omega) | (simp; done))))) | (apply RdN.own; (repeat (first | exact Has.here | apply Has.there)); (first | exact getTr_all hS | exact getTr_c hS | exact getTr_S hS | exact getTr_all hR))))); all_goals (first | (apply ol_gskip; exact rfl; exact rfl; (first | exact rfl | assumption); exact rfl) | (apply ol_gval; exact rfl; exact rfl; exact rfl; (first | exact rfl | assumption); apply stp_cmp; apply s_eql; exact rfl; exact rfl; all_goals (intro hc37; try (exfalso; (first | exact hc37 rfl | omega))))); all_goals (apply ol_val; exact rfl; apply stp_pur; first | (apply s_pick_t; exact rfl; (first | exact rfl | assumption); exact rfl) | (apply s_pick_f; exact rfl; (first | exact rfl | assumption); exact rfl)); all_goals (apply ol_as; exact rfl; exact rfl); all_goals (apply ol_nil))
          | (refine cw_region_id 7 ?_; (apply ol_val; exact rfl; apply stp_pur; first | (apply s_buildS; exact rfl; exact fs_25; exact zb_25; first | exact Fil.tr hR rfl | exact Fil.tr0 hR rfl rfl | exact Fil.z32) | (apply s_buildS; exact rfl; exact fs_25; exact zb_25; (focus ((repeat (first | exact Fil.nil | (apply Fil.one; exact rfl; exact rfl; (repeat (first | exact SetAt.zero | apply SetAt.succ))) | (apply Fil.agg; exact rfl; exact rfl; (repeat (first | exact SetN.nil | (apply SetN.cons; (repeat (first | exact SetAt.zero | apply SetAt.succ))))); (exact Nat.le_of_ble_eq_true rfl)))); done)))); (apply ol_eff; first | (apply s_storeN; exact rfl; exact rfl; exact sz_25; exact rfl; exact rfl; (focus ((repeat constructor); done)); (focus ((repeat constructor); done))) | (apply s_storeN; exact rfl; exact rfl; exact sz_25; (first | exact trE_length hR | exact trE_length z32_length); exact trE_ones; (focus ((repeat (first | exact Repl.here | apply Repl.there)); done)); (first | exact setN_all (trE_length hR).symm | exact setN_all (trE_length z32_length).symm))); (apply ol_as; exact rfl; exact rfl); (apply ol_nil))
          | (apply cw_cond_true; exact rfl; (first | exact rfl | assumption))
          | (apply cw_cond_false; exact rfl; (first | exact rfl | assumption))
          | apply cw_skip
          | apply cw_ret
          | apply cw_block
          | apply cw_exit
        refine ends [] (RVal.cellN rfl rfl rfl (RdN.own (by (repeat (first | exact Has.here | apply Has.there))) (getTr_all z32_length)) (RVal.tmp rfl RVal.nil)) Pick.nil ?_
        rfl
      · rw [if_neg hc]
        unfold tOk at hv
        repeat' first
          | apply cw_seq
          | (refine cw_region_id 0 ?_; (apply ol_val; exact rfl; first | (apply s_boxN; exact rfl; intro bk3) | (apply s_box1; exact rfl; exact rfl; intro bk3)); (apply ol_val; exact rfl; first | (apply s_boxN; exact rfl; intro bk5) | (apply s_box1; exact rfl; exact rfl; intro bk5)); (apply ol_val; exact rfl; apply s_alloc; exact zb_25; (focus ((repeat constructor); done)); intro bk6); (apply ol_as; exact rfl; exact rfl); (apply ol_nil))
          | (refine cw_region_id 1 ?_; (apply ol_ldN; exact rfl; exact rfl; exact rfl; exact sz_25; (first | (apply RdN.own; (focus ((repeat constructor); done)); (focus ((repeat (first | exact rfl | constructor)); done))) | (apply RdN.own; (repeat (first | exact Has.here | apply Has.there)); (first | exact getTr_all hS | exact getTr_c hS | exact getTr_S hS | exact getTr_all hR)))); (apply ol_val; exact rfl; apply s_callv; exact rfl; exact gf_17; (intro w' hw'; exact kv w')); (apply ol_val; exact rfl; apply stp_pur; first | (apply s_not_t; exact rfl; (first | exact rfl | assumption)) | (apply s_not_f; exact rfl; (first | exact rfl | assumption)) | (apply s_not; exact rfl)); (apply ol_mv; exact rfl; exact rfl); (first | (apply ol_gskip; exact rfl; exact rfl; (first | exact rfl | assumption); exact rfl) | (apply ol_gval; exact rfl; exact rfl; exact rfl; (first | exact rfl | assumption); apply stp_pur; apply s_move; exact rfl)); (first | (apply ol_gskip; exact rfl; exact rfl; (first | exact rfl | assumption); exact rfl) | (apply ol_gval; exact rfl; exact rfl; exact rfl; (first | exact rfl | assumption); apply s_callv; exact rfl; exact gf_18; (intro w' hw'; exact kl w'))); (first | (apply ol_gskip; exact rfl; exact rfl; (first | exact rfl | assumption); exact rfl) | (apply ol_gval; exact rfl; exact rfl; exact rfl; (first | exact rfl | assumption); apply stp_pur; first | (apply s_not_t; exact rfl; (first | exact rfl | assumption)) | (apply s_not_f; exact rfl; (first | exact rfl | assumption)) | (apply s_not; exact rfl))); (apply ol_val; exact rfl; apply stp_pur; first | (apply s_pick_t; exact rfl; (first | exact rfl | assumption); exact rfl) | (apply s_pick_f; exact rfl; (first | exact rfl | assumption); exact rfl)); (apply ol_nil))
          | (refine cw_region_id 3 ?_; (apply ol_ldN; exact rfl; exact rfl; exact rfl; exact sz_25; (first | (apply RdN.own; (focus ((repeat constructor); done)); (focus ((repeat (first | exact rfl | constructor)); done))) | (apply RdN.own; (repeat (first | exact Has.here | apply Has.there)); (first | exact getTr_all hS | exact getTr_c hS | exact getTr_S hS | exact getTr_all hR)))); (apply ol_mv; exact rfl; exact rfl); (apply ol_ldN; exact rfl; exact rfl; exact rfl; exact sz_41; (first | (apply RdN.own; (focus ((repeat constructor); done)); (focus ((repeat (first | exact rfl | constructor)); done))) | (apply RdN.own; (repeat (first | exact Has.here | apply Has.there)); (first | exact getTr_all hS | exact getTr_c hS | exact getTr_S hS | exact getTr_all hR)))); (apply ol_val; exact rfl; apply s_buildSl; exact rfl; exact el_39; exact sz_41; exact zb_41; (focus ((repeat constructor); done)); exact rfl; exact rfl; (exact Nat.le_of_ble_eq_true rfl); (focus ((repeat constructor); done)); (focus ((repeat (first | exact Fil.nil | (apply Fil.one; exact rfl; exact rfl; (repeat (first | exact SetAt.zero | apply SetAt.succ))) | (apply Fil.agg; exact rfl; exact rfl; (repeat (first | exact SetN.nil | (apply SetN.cons; (repeat (first | exact SetAt.zero | apply SetAt.succ))))); (exact Nat.le_of_ble_eq_true rfl)))); done)); intro bk23); (apply ol_val; exact rfl; apply s_callv; exact rfl; exact gf_19; (intro w' hw'; exact kh w' hw'.le (hw'.ok_ (by (repeat (first | exact Has.here | apply Has.there)))))); (apply ol_mv; exact rfl; exact rfl); (apply ol_ex; exact rfl; exact rfl; exact rfl); (apply ol_ex; exact rfl; exact rfl; exact rfl); (apply ol_val; exact rfl; apply s_allocK; exact zk_23; intro bk8); (apply ol_eff; first | (apply s_storeK; exact rfl; exact rfl; exact sz_23; (focus ((repeat constructor); done)); (first | assumption | (rw [List.length_replicate])); (first | assumption | (rw [List.length_replicate]))) | (apply s_storeN; exact rfl; exact rfl; exact sz_23; (first | exact trE_length hR | exact trE_length z32_length); exact trE_ones; (focus ((repeat (first | exact Repl.here | apply Repl.there)); done)); (first | exact setN_all (trE_length hR).symm | exact setN_all (trE_length z32_length).symm))); (apply ol_as; exact rfl; exact rfl); (apply ol_nil))
          | (refine cw_region_id 4 ?_; (apply ol_mv; exact rfl; exact rfl); (apply ol_val; exact rfl; apply stp_cmp; apply s_eql; exact rfl; exact rfl; all_goals (intro hc29; try (exfalso; (first | exact hc29 rfl | omega)))); all_goals (apply ol_as; exact rfl; exact rfl); all_goals (apply ol_nil))
          | (refine cw_region_id 6 ?_; (apply ol_mv; exact rfl; exact rfl); (apply ol_val; exact rfl; apply stp_cmp; apply s_neq; exact rfl; exact rfl; all_goals (intro hc33; try (exfalso; (first | exact hc33 rfl | omega)))); all_goals (apply ol_mv; exact rfl; exact rfl); all_goals (first | (apply ol_gskip; exact rfl; exact rfl; (first | exact rfl | assumption); exact rfl) | (apply ol_gval; exact rfl; exact rfl; exact rfl; (first | exact rfl | assumption); apply stp_pur; apply s_fieldAddr'; exact rfl; exact fd_25_1; (first | exact Nat.zero_add _ | exact Nat.add_zero _ | exact rfl))); all_goals (first | (apply ol_gskip; exact rfl; exact rfl; (first | exact rfl | assumption); exact rfl) | (apply ol_gval; exact rfl; exact rfl; exact rfl; (first | exact rfl | assumption); apply stp_pur; apply s_load1; exact rfl; exact rfl; (first | (apply RdN.own; (focus ((repeat constructor); done)); (first | exact GetN.cons rfl GetN.nil | (apply getN_ints_app; (first | omega | (simp; omega) | (simp; done))) | (apply getN_ints; (first | omega | (simp; omega) | (simp; done))))) | (apply RdN.own; (repeat (first | exact Has.here | apply Has.there)); (first | exact getTr_all hS | exact getTr_c hS | exact getTr_S hS | exact getTr_all hR))))); all_goals (first | (apply ol_gskip; exact rfl; exact rfl; (first | exact rfl | assumption); exact rfl) | (apply ol_gval; exact rfl; exact rfl; exact rfl; (first | exact rfl | assumption); apply stp_cmp; apply s_eql; exact rfl; exact rfl; all_goals (intro hc37; try (exfalso; (first | exact hc37 rfl | omega))))); all_goals (apply ol_val; exact rfl; apply stp_pur; first | (apply s_pick_t; exact rfl; (first | exact rfl | assumption); exact rfl) | (apply s_pick_f; exact rfl; (first | exact rfl | assumption); exact rfl)); all_goals (apply ol_as; exact rfl; exact rfl); all_goals (apply ol_nil))
          | (refine cw_region_id 8 ?_; (apply ol_ldN; exact rfl; exact rfl; exact rfl; exact sz_23; (first | (apply RdN.own; (focus ((repeat constructor); done)); (apply getNK_all; (first | assumption | (rw [List.length_replicate])))) | (apply RdN.own; (repeat (first | exact Has.here | apply Has.there)); (first | exact getTr_all hS | exact getTr_c hS | exact getTr_S hS | exact getTr_all hR)))); (apply ol_fa; exact rfl; exact rfl; exact fd_25_1; (first | exact Nat.zero_add _ | exact Nat.add_zero _ | exact rfl)); (apply ol_ld; exact rfl; exact rfl; exact rfl; (first | (apply RdN.own; (focus ((repeat constructor); done)); (first | exact GetN.cons rfl GetN.nil | (apply getN_ints_app; (first | omega | (simp; omega) | (simp; done))) | (apply getN_ints; (first | omega | (simp; omega) | (simp; done))))) | (apply RdN.own; (repeat (first | exact Has.here | apply Has.there)); (first | exact getTr_all hS | exact getTr_c hS | exact getTr_S hS | exact getTr_all hR)))); (apply ol_val; exact rfl; apply stp_pur; apply s_add64; exact rfl; exact rfl; omega); (apply ol_val; exact rfl; apply stp_pur; first | (apply s_buildS; exact rfl; exact fs_25; exact zb_25; first | exact Fil.tr hR rfl | exact Fil.tr0 hR rfl rfl | exact Fil.z32) | (apply s_buildS; exact rfl; exact fs_25; exact zb_25; (focus ((repeat (first | exact Fil.nil | (apply Fil.one; exact rfl; exact rfl; (repeat (first | exact SetAt.zero | apply SetAt.succ))) | (apply Fil.agg; exact rfl; exact rfl; (repeat (first | exact SetN.nil | (apply SetN.cons; (repeat (first | exact SetAt.zero | apply SetAt.succ))))); (exact Nat.le_of_ble_eq_true rfl)))); done)))); (apply ol_eff; first | (apply s_storeN; exact rfl; exact rfl; exact sz_25; exact rfl; exact rfl; (focus ((repeat constructor); done)); (focus ((repeat constructor); done))) | (apply s_storeN; exact rfl; exact rfl; exact sz_25; (first | exact trE_length hR | exact trE_length z32_length); exact trE_ones; (focus ((repeat (first | exact Repl.here | apply Repl.there)); done)); (first | exact setN_all (trE_length hR).symm | exact setN_all (trE_length z32_length).symm))); (apply ol_as; exact rfl; exact rfl); (apply ol_nil))
          | (apply cw_cond_true; exact rfl; (first | exact rfl | assumption))
          | (apply cw_cond_false; exact rfl; (first | exact rfl | assumption))
          | apply cw_skip
          | apply cw_ret
          | apply cw_block
          | apply cw_exit
        refine ends [] (RVal.cellN rfl rfl rfl (RdN.own (by (repeat (first | exact Has.here | apply Has.there))) (getTr_all hR)) (RVal.tmp rfl RVal.nil)) Pick.nil ?_
        rfl
    | false =>
      rw [if_neg (by simp)]
      rw [hlv] at kl
      repeat' first
        | apply cw_seq
        | (refine cw_region_id 0 ?_; (apply ol_val; exact rfl; first | (apply s_boxN; exact rfl; intro bk3) | (apply s_box1; exact rfl; exact rfl; intro bk3)); (apply ol_val; exact rfl; first | (apply s_boxN; exact rfl; intro bk5) | (apply s_box1; exact rfl; exact rfl; intro bk5)); (apply ol_val; exact rfl; apply s_alloc; exact zb_25; (focus ((repeat constructor); done)); intro bk6); (apply ol_as; exact rfl; exact rfl); (apply ol_nil))
        | (refine cw_region_id 1 ?_; (apply ol_ldN; exact rfl; exact rfl; exact rfl; exact sz_25; (first | (apply RdN.own; (focus ((repeat constructor); done)); (focus ((repeat (first | exact rfl | constructor)); done))) | (apply RdN.own; (repeat (first | exact Has.here | apply Has.there)); (first | exact getTr_all hS | exact getTr_c hS | exact getTr_S hS | exact getTr_all hR)))); (apply ol_val; exact rfl; apply s_callv; exact rfl; exact gf_17; (intro w' hw'; exact kv w')); (apply ol_val; exact rfl; apply stp_pur; first | (apply s_not_t; exact rfl; (first | exact rfl | assumption)) | (apply s_not_f; exact rfl; (first | exact rfl | assumption)) | (apply s_not; exact rfl)); (apply ol_mv; exact rfl; exact rfl); (first | (apply ol_gskip; exact rfl; exact rfl; (first | exact rfl | assumption); exact rfl) | (apply ol_gval; exact rfl; exact rfl; exact rfl; (first | exact rfl | assumption); apply stp_pur; apply s_move; exact rfl)); (first | (apply ol_gskip; exact rfl; exact rfl; (first | exact rfl | assumption); exact rfl) | (apply ol_gval; exact rfl; exact rfl; exact rfl; (first | exact rfl | assumption); apply s_callv; exact rfl; exact gf_18; (intro w' hw'; exact kl w'))); (first | (apply ol_gskip; exact rfl; exact rfl; (first | exact rfl | assumption); exact rfl) | (apply ol_gval; exact rfl; exact rfl; exact rfl; (first | exact rfl | assumption); apply stp_pur; first | (apply s_not_t; exact rfl; (first | exact rfl | assumption)) | (apply s_not_f; exact rfl; (first | exact rfl | assumption)) | (apply s_not; exact rfl))); (apply ol_val; exact rfl; apply stp_pur; first | (apply s_pick_t; exact rfl; (first | exact rfl | assumption); exact rfl) | (apply s_pick_f; exact rfl; (first | exact rfl | assumption); exact rfl)); (apply ol_nil))
        | (refine cw_region_id 2 ?_; (apply ol_val; exact rfl; apply stp_pur; first | (apply s_buildS; exact rfl; exact fs_25; exact zb_25; first | exact Fil.tr hR rfl | exact Fil.tr0 hR rfl rfl | exact Fil.z32) | (apply s_buildS; exact rfl; exact fs_25; exact zb_25; (focus ((repeat (first | exact Fil.nil | (apply Fil.one; exact rfl; exact rfl; (repeat (first | exact SetAt.zero | apply SetAt.succ))) | (apply Fil.agg; exact rfl; exact rfl; (repeat (first | exact SetN.nil | (apply SetN.cons; (repeat (first | exact SetAt.zero | apply SetAt.succ))))); (exact Nat.le_of_ble_eq_true rfl)))); done)))); (apply ol_eff; first | (apply s_storeN; exact rfl; exact rfl; exact sz_25; exact rfl; exact rfl; (focus ((repeat constructor); done)); (focus ((repeat constructor); done))) | (apply s_storeN; exact rfl; exact rfl; exact sz_25; (first | exact trE_length hR | exact trE_length z32_length); exact trE_ones; (focus ((repeat (first | exact Repl.here | apply Repl.there)); done)); (first | exact setN_all (trE_length hR).symm | exact setN_all (trE_length z32_length).symm))); (apply ol_as; exact rfl; exact rfl); (apply ol_nil))
        | (apply cw_cond_true; exact rfl; (first | exact rfl | assumption))
        | (apply cw_cond_false; exact rfl; (first | exact rfl | assumption))
        | apply cw_skip
        | apply cw_ret
        | apply cw_block
        | apply cw_exit
      refine ends [] (RVal.cellN rfl rfl rfl (RdN.own (by (repeat (first | exact Has.here | apply Has.there))) (getTr_all z32_length)) (RVal.tmp rfl RVal.nil)) Pick.nil ?_
      rfl
  · rw [decide_eq_false hv] at kv
    rw [if_neg (fun h => hv h.1)]
    repeat' first
      | apply cw_seq
      | (refine cw_region_id 0 ?_; (apply ol_val; exact rfl; first | (apply s_boxN; exact rfl; intro bk3) | (apply s_box1; exact rfl; exact rfl; intro bk3)); (apply ol_val; exact rfl; first | (apply s_boxN; exact rfl; intro bk5) | (apply s_box1; exact rfl; exact rfl; intro bk5)); (apply ol_val; exact rfl; apply s_alloc; exact zb_25; (focus ((repeat constructor); done)); intro bk6); (apply ol_as; exact rfl; exact rfl); (apply ol_nil))
      | (refine cw_region_id 1 ?_; (apply ol_ldN; exact rfl; exact rfl; exact rfl; exact sz_25; (first | (apply RdN.own; (focus ((repeat constructor); done)); (focus ((repeat (first | exact rfl | constructor)); done))) | (apply RdN.own; (repeat (first | exact Has.here | apply Has.there)); (first | exact getTr_all hS | exact getTr_c hS | exact getTr_S hS | exact getTr_all hR)))); (apply ol_val; exact rfl; apply s_callv; exact rfl; exact gf_17; (intro w' hw'; exact kv w')); (apply ol_val; exact rfl; apply stp_pur; first | (apply s_not_t; exact rfl; (first | exact rfl | assumption)) | (apply s_not_f; exact rfl; (first | exact rfl | assumption)) | (apply s_not; exact rfl)); (apply ol_mv; exact rfl; exact rfl); (first | (apply ol_gskip; exact rfl; exact rfl; (first | exact rfl | assumption); exact rfl) | (apply ol_gval; exact rfl; exact rfl; exact rfl; (first | exact rfl | assumption); apply stp_pur; apply s_move; exact rfl)); (first | (apply ol_gskip; exact rfl; exact rfl; (first | exact rfl | assumption); exact rfl) | (apply ol_gval; exact rfl; exact rfl; exact rfl; (first | exact rfl | assumption); apply s_callv; exact rfl; exact gf_18; (intro w' hw'; exact kl w'))); (first | (apply ol_gskip; exact rfl; exact rfl; (first | exact rfl | assumption); exact rfl) | (apply ol_gval; exact rfl; exact rfl; exact rfl; (first | exact rfl | assumption); apply stp_pur; first | (apply s_not_t; exact rfl; (first | exact rfl | assumption)) | (apply s_not_f; exact rfl; (first | exact rfl | assumption)) | (apply s_not; exact rfl))); (apply ol_val; exact rfl; apply stp_pur; first | (apply s_pick_t; exact rfl; (first | exact rfl | assumption); exact rfl) | (apply s_pick_f; exact rfl; (first | exact rfl | assumption); exact rfl)); (apply ol_nil))
      | (refine cw_region_id 2 ?_; (apply ol_val; exact rfl; apply stp_pur; first | (apply s_buildS; exact rfl; exact fs_25; exact zb_25; first | exact Fil.tr hR rfl | exact Fil.tr0 hR rfl rfl | exact Fil.z32) | (apply s_buildS; exact rfl; exact fs_25; exact zb_25; (focus ((repeat (first | exact Fil.nil | (apply Fil.one; exact rfl; exact rfl; (repeat (first | exact SetAt.zero | apply SetAt.succ))) | (apply Fil.agg; exact rfl; exact rfl; (repeat (first | exact SetN.nil | (apply SetN.cons; (repeat (first | exact SetAt.zero | apply SetAt.succ))))); (exact Nat.le_of_ble_eq_true rfl)))); done)))); (apply ol_eff; first | (apply s_storeN; exact rfl; exact rfl; exact sz_25; exact rfl; exact rfl; (focus ((repeat constructor); done)); (focus ((repeat constructor); done))) | (apply s_storeN; exact rfl; exact rfl; exact sz_25; (first | exact trE_length hR | exact trE_length z32_length); exact trE_ones; (focus ((repeat (first | exact Repl.here | apply Repl.there)); done)); (first | exact setN_all (trE_length hR).symm | exact setN_all (trE_length z32_length).symm))); (apply ol_as; exact rfl; exact rfl); (apply ol_nil))
      | (apply cw_cond_true; exact rfl; (first | exact rfl | assumption))
      | (apply cw_cond_false; exact rfl; (first | exact rfl | assumption))
      | apply cw_skip
      | apply cw_ret
      | apply cw_block
      | apply cw_exit
    refine ends [] (RVal.cellN rfl rfl rfl (RdN.own (by (repeat (first | exact Has.here | apply Has.there))) (getTr_all z32_length)) (RVal.tmp rfl RVal.nil)) Pick.nil ?_
    rfl
end Go.Proofs.YtkbbbflojebfgaaDoor

/-
  The walk of Challenge.
-/
namespace Go.Proofs.YtkbbbflojebfgaaDoor
set_option maxRecDepth 20000
set_option linter.unusedSimpArgs false
set_option linter.unusedVariables false
open Go Go.Fw
theorem lf7 (n : Int) : (mkL 7 (hdN n)).enc = [.int .i64 1, .int .i64 n, .slice none 0 0, .slice none 0 0] := mkL_enc 7 (hdN n)
theorem okI_lf7 (n : Int) : okI 7 (mkL 7 (hdN n)) = true := by rw [okI_mkL (by show (1 : Int) ≠ 3; omega)]; rfl
theorem encI_lf7 (n : Int) : encI 7 (mkL 7 (hdN n)) = lfN n := by rw [encI_mkL (by show (1 : Int) ≠ 3; omega)]; rfl
theorem lfN_length (n : Int) : (lfN n).length = 9 := by unfold lfN; rw [List.length_cons, bI_length]
theorem ItV_lf7 {M : View} (n : Int) : ItV M 7 (mkL 7 (hdN n)) := ItV.mkL ⟨SlA.none', fun x hx => by simp [hdN] at hx, by simp [hdN], by simp [hdN]⟩ rfl 7
end Go.Proofs.YtkbbbflojebfgaaDoor
namespace Go.Proofs.YtkbbbflojebfgaaDoor
set_option maxRecDepth 20000
set_option linter.unusedSimpArgs false
set_option linter.unusedVariables false
open Go Go.Fw
attribute [local irreducible] CW OL OD FX Stp FnC FnV FnA Ret bI encI okI trE sha strOf frB encP tagd newE chE diE abE labB numB lfN
set_option maxHeartbeats 800000
theorem absorbN_spec {M : View} {w : World} (hM : View.le M (View.of w)) (hL : Laid M) {S : List Int} (hS : S.length = 32) (hSb : isB S) {c : Int} {l : List Int} (hlb : ∀ x ∈ l, 0 ≤ x ∧ x ≤ 255) (n : Int) (hv : tOk c) (hl : labB l = true) (hc : c ≠ 1000) :
    FnC Tryd.prog 10 [.agg (trE S c).toArray, .string (strOf l), .agg [.int .i64 1, .int .i64 n, .slice none 0 0, .slice none 0 0].toArray] w (fun v _ => v = .tuple #[.agg (trE (abE S l (lfN n)) (c + 1)).toArray, .int .i64 0]) := by
  have := absorb_spec hM hL hS hSb c hlb (ItV_lf7 n) (okI_lf7 n) (by rw [encI_lf7, lfN_length]; omega)
  rw [lf7, encI_lf7] at this
  unfold abR at this
  rw [if_pos ⟨hv, hl⟩, if_neg hc] at this
  exact this
theorem challenge_spec {M : View} {w : World} (hM : View.le M (View.of w)) (hL : Laid M) {S : List Int} (hS : S.length = 32) (hSb : isB S) (c : Int) {l : List Int} (hlb : ∀ x ∈ l, 0 ≤ x ∧ x ≤ 255) (m : Int) :
    FnC Tryd.prog 7 [.agg (trE S c).toArray, .string (strOf l), .int .i64 m] w (fun v _ => v = .tuple #[.agg (trE (chR S c l m).S (chR S c l m).c).toArray, .int .i64 (chR S c l m).v, .int .i64 (chR S c l m).e]) := by
  have kl := fun (w' : World) => label_spec w' hlb
  have kv := fun (w' : World) => tvalid_spec w' hS c
  refine enterF (M := M) Tryd.func7 rfl rfl rfl rfl hM ?_
  unfold chR
  by_cases hv : tOk c
  · rw [decide_eq_true hv] at kv
    cases hlv : labB l with
    | true =>
      rw [if_pos ⟨hv, rfl⟩]
      rw [hlv] at kl
      by_cases hm : m < 2 ∨ 2305843009213693952 ≤ m
      · rw [if_pos hm]
        repeat' first
          | apply cw_seq
          | (refine cw_region_id 0 ?_; (apply ol_val; exact rfl; first | (apply s_boxN; exact rfl; intro bk3) | (apply s_box1; exact rfl; exact rfl; intro bk3)); (apply ol_val; exact rfl; apply s_alloc; exact zb_25; (focus ((repeat constructor); done)); intro bk6); (apply ol_as; exact rfl; exact rfl); (apply ol_as; exact rfl; exact rfl); (apply ol_nil))
          | (refine cw_region_id 1 ?_; (apply ol_ldN; exact rfl; exact rfl; exact rfl; exact sz_25; (first | (apply RdN.own; (focus ((repeat constructor); done)); (focus ((repeat (first | exact rfl | constructor)); done))) | (apply RdN.own; (repeat (first | exact Has.here | apply Has.there)); (first | exact getTr_all hS | exact getTr_c hS | exact getTr_S hS | exact getTr_all hR)))); (apply ol_val; exact rfl; apply s_callv; exact rfl; exact gf_17; (intro w' hw'; exact kv w')); (apply ol_val; exact rfl; apply stp_pur; first | (apply s_not_t; exact rfl; (first | exact rfl | assumption)) | (apply s_not_f; exact rfl; (first | exact rfl | assumption)) | (apply s_not; exact rfl)); (apply ol_mv; exact rfl; exact rfl); (first | (apply ol_gskip; exact rfl; exact rfl; (first | exact rfl | assumption); exact rfl) | (apply ol_gval; exact rfl; exact rfl; exact rfl; (first | exact rfl | assumption); apply stp_pur; apply s_move; exact rfl)); (first | (apply ol_gskip; exact rfl; exact rfl; (first | exact rfl | assumption); exact rfl) | (apply ol_gval; exact rfl; exact rfl; exact rfl; (first | exact rfl | assumption); apply s_callv; exact rfl; exact gf_18; (intro w' hw'; exact kl w'))); (first | (apply ol_gskip; exact rfl; exact rfl; (first | exact rfl | assumption); exact rfl) | (apply ol_gval; exact rfl; exact rfl; exact rfl; (first | exact rfl | assumption); apply stp_pur; first | (apply s_not_t; exact rfl; (first | exact rfl | assumption)) | (apply s_not_f; exact rfl; (first | exact rfl | assumption)) | (apply s_not; exact rfl))); (apply ol_val; exact rfl; apply stp_pur; first | (apply s_pick_t; exact rfl; (first | exact rfl | assumption); exact rfl) | (apply s_pick_f; exact rfl; (first | exact rfl | assumption); exact rfl)); (apply ol_as; exact rfl; exact rfl); (apply ol_nil))
          | (refine cw_region_id 3 ?_; (apply ol_mv; exact rfl; exact rfl); (apply ol_val; exact rfl; apply stp_cmp; apply s_lss; exact rfl; exact rfl; all_goals (intro hc25; try (exfalso; (first | exact hc25 rfl | omega)))); all_goals (apply ol_mv; exact rfl; exact rfl); all_goals (first | (apply ol_gskip; exact rfl; exact rfl; (first | exact rfl | assumption); exact rfl) | (apply ol_gval; exact rfl; exact rfl; exact rfl; (first | exact rfl | assumption); apply stp_pur; apply s_move; exact rfl)); all_goals (first | (apply ol_gskip; exact rfl; exact rfl; (first | exact rfl | assumption); exact rfl) | (apply ol_gval; exact rfl; exact rfl; exact rfl; (first | exact rfl | assumption); apply stp_cmp; apply s_geq; exact rfl; exact rfl; all_goals (intro hc28; try (exfalso; (first | exact hc28 rfl | omega))))); all_goals (apply ol_val; exact rfl; apply stp_pur; first | (apply s_pick_t; exact rfl; (first | exact rfl | assumption); exact rfl) | (apply s_pick_f; exact rfl; (first | exact rfl | assumption); exact rfl)); all_goals (apply ol_as; exact rfl; exact rfl); all_goals (apply ol_nil))
          | (refine cw_region_id 4 ?_; (apply ol_val; exact rfl; apply stp_pur; first | (apply s_buildS; exact rfl; exact fs_25; exact zb_25; first | exact Fil.tr hR rfl | exact Fil.tr0 hR rfl rfl | exact Fil.z32) | (apply s_buildS; exact rfl; exact fs_25; exact zb_25; (focus ((repeat (first | exact Fil.nil | (apply Fil.one; exact rfl; exact rfl; (repeat (first | exact SetAt.zero | apply SetAt.succ))) | (apply Fil.agg; exact rfl; exact rfl; (repeat (first | exact SetN.nil | (apply SetN.cons; (repeat (first | exact SetAt.zero | apply SetAt.succ))))); (exact Nat.le_of_ble_eq_true rfl)))); done)))); (apply ol_eff; first | (apply s_storeN; exact rfl; exact rfl; exact sz_25; exact rfl; exact rfl; (focus ((repeat constructor); done)); (focus ((repeat constructor); done))) | (apply s_storeN; exact rfl; exact rfl; exact sz_25; (first | exact trE_length hR | exact trE_length z32_length); exact trE_ones; (focus ((repeat (first | exact Repl.here | apply Repl.there)); done)); (first | exact setN_all (trE_length hR).symm | exact setN_all (trE_length z32_length).symm))); (apply ol_as; exact rfl; exact rfl); (apply ol_as; exact rfl; exact rfl); (apply ol_nil))
          | (apply cw_cond_true; exact rfl; (first | exact rfl | assumption))
          | (apply cw_cond_false; exact rfl; (first | exact rfl | assumption))
          | apply cw_skip
          | apply cw_ret
          | apply cw_block
          | apply cw_exit
        all_goals (refine ends [] (RVal.cellN rfl rfl rfl (RdN.own (by (repeat (first | exact Has.here | apply Has.there))) (getTr_all z32_length)) (RVal.tmp rfl (RVal.tmp rfl RVal.nil))) Pick.nil ?_; rfl)
      · rw [if_neg hm]
        by_cases hc : c = 1000
        · subst hc
          rw [if_pos rfl]
          repeat' first
            | apply cw_seq
            | (refine cw_region_id 0 ?_; (apply ol_val; exact rfl; first | (apply s_boxN; exact rfl; intro bk3) | (apply s_box1; exact rfl; exact rfl; intro bk3)); (apply ol_val; exact rfl; apply s_alloc; exact zb_25; (focus ((repeat constructor); done)); intro bk6); (apply ol_as; exact rfl; exact rfl); (apply ol_as; exact rfl; exact rfl); (apply ol_nil))
            | (refine cw_region_id 1 ?_; (apply ol_ldN; exact rfl; exact rfl; exact rfl; exact sz_25; (first | (apply RdN.own; (focus ((repeat constructor); done)); (focus ((repeat (first | exact rfl | constructor)); done))) | (apply RdN.own; (repeat (first | exact Has.here | apply Has.there)); (first | exact getTr_all hS | exact getTr_c hS | exact getTr_S hS | exact getTr_all hR)))); (apply ol_val; exact rfl; apply s_callv; exact rfl; exact gf_17; (intro w' hw'; exact kv w')); (apply ol_val; exact rfl; apply stp_pur; first | (apply s_not_t; exact rfl; (first | exact rfl | assumption)) | (apply s_not_f; exact rfl; (first | exact rfl | assumption)) | (apply s_not; exact rfl)); (apply ol_mv; exact rfl; exact rfl); (first | (apply ol_gskip; exact rfl; exact rfl; (first | exact rfl | assumption); exact rfl) | (apply ol_gval; exact rfl; exact rfl; exact rfl; (first | exact rfl | assumption); apply stp_pur; apply s_move; exact rfl)); (first | (apply ol_gskip; exact rfl; exact rfl; (first | exact rfl | assumption); exact rfl) | (apply ol_gval; exact rfl; exact rfl; exact rfl; (first | exact rfl | assumption); apply s_callv; exact rfl; exact gf_18; (intro w' hw'; exact kl w'))); (first | (apply ol_gskip; exact rfl; exact rfl; (first | exact rfl | assumption); exact rfl) | (apply ol_gval; exact rfl; exact rfl; exact rfl; (first | exact rfl | assumption); apply stp_pur; first | (apply s_not_t; exact rfl; (first | exact rfl | assumption)) | (apply s_not_f; exact rfl; (first | exact rfl | assumption)) | (apply s_not; exact rfl))); (apply ol_val; exact rfl; apply stp_pur; first | (apply s_pick_t; exact rfl; (first | exact rfl | assumption); exact rfl) | (apply s_pick_f; exact rfl; (first | exact rfl | assumption); exact rfl)); (apply ol_as; exact rfl; exact rfl); (apply ol_nil))
            | (refine cw_region_id 3 ?_; (apply ol_mv; exact rfl; exact rfl); (apply ol_val; exact rfl; apply stp_cmp; apply s_lss; exact rfl; exact rfl; all_goals (intro hc25; try (exfalso; (first | exact hc25 rfl | omega)))); all_goals (apply ol_mv; exact rfl; exact rfl); all_goals (first | (apply ol_gskip; exact rfl; exact rfl; (first | exact rfl | assumption); exact rfl) | (apply ol_gval; exact rfl; exact rfl; exact rfl; (first | exact rfl | assumption); apply stp_pur; apply s_move; exact rfl)); all_goals (first | (apply ol_gskip; exact rfl; exact rfl; (first | exact rfl | assumption); exact rfl) | (apply ol_gval; exact rfl; exact rfl; exact rfl; (first | exact rfl | assumption); apply stp_cmp; apply s_geq; exact rfl; exact rfl; all_goals (intro hc28; try (exfalso; (first | exact hc28 rfl | omega))))); all_goals (apply ol_val; exact rfl; apply stp_pur; first | (apply s_pick_t; exact rfl; (first | exact rfl | assumption); exact rfl) | (apply s_pick_f; exact rfl; (first | exact rfl | assumption); exact rfl)); all_goals (apply ol_as; exact rfl; exact rfl); all_goals (apply ol_nil))
            | (refine cw_region_id 5 ?_; (apply ol_fa; exact rfl; exact rfl; exact fd_25_1; (first | exact Nat.zero_add _ | exact Nat.add_zero _ | exact rfl)); (apply ol_ld; exact rfl; exact rfl; exact rfl; (first | (apply RdN.own; (focus ((repeat constructor); done)); (first | exact GetN.cons rfl GetN.nil | (apply getN_ints_app; (first | omega | (simp; omega) | (simp; done))) | (apply getN_ints; (first | omega | (simp; omega) | (simp; done))))) | (apply RdN.own; (repeat (first | exact Has.here | apply Has.there)); (first | exact getTr_all hS | exact getTr_c hS | exact getTr_S hS | exact getTr_all hR)))); (apply ol_val; exact rfl; apply stp_cmp; apply s_eql; exact rfl; exact rfl; all_goals (intro hc34; try (exfalso; (first | exact hc34 rfl | omega)))); all_goals (apply ol_as; exact rfl; exact rfl); all_goals (apply ol_nil))
            | (refine cw_region_id 6 ?_; (apply ol_val; exact rfl; apply stp_pur; first | (apply s_buildS; exact rfl; exact fs_25; exact zb_25; first | exact Fil.tr hR rfl | exact Fil.tr0 hR rfl rfl | exact Fil.z32) | (apply s_buildS; exact rfl; exact fs_25; exact zb_25; (focus ((repeat (first | exact Fil.nil | (apply Fil.one; exact rfl; exact rfl; (repeat (first | exact SetAt.zero | apply SetAt.succ))) | (apply Fil.agg; exact rfl; exact rfl; (repeat (first | exact SetN.nil | (apply SetN.cons; (repeat (first | exact SetAt.zero | apply SetAt.succ))))); (exact Nat.le_of_ble_eq_true rfl)))); done)))); (apply ol_eff; first | (apply s_storeN; exact rfl; exact rfl; exact sz_25; exact rfl; exact rfl; (focus ((repeat constructor); done)); (focus ((repeat constructor); done))) | (apply s_storeN; exact rfl; exact rfl; exact sz_25; (first | exact trE_length hR | exact trE_length z32_length); exact trE_ones; (focus ((repeat (first | exact Repl.here | apply Repl.there)); done)); (first | exact setN_all (trE_length hR).symm | exact setN_all (trE_length z32_length).symm))); (apply ol_as; exact rfl; exact rfl); (apply ol_as; exact rfl; exact rfl); (apply ol_nil))
            | (apply cw_cond_true; exact rfl; (first | exact rfl | assumption))
            | (apply cw_cond_false; exact rfl; (first | exact rfl | assumption))
            | apply cw_skip
            | apply cw_ret
            | apply cw_block
            | apply cw_exit
          refine ends [] (RVal.cellN rfl rfl rfl (RdN.own (by (repeat (first | exact Has.here | apply Has.there))) (getTr_all z32_length)) (RVal.tmp rfl (RVal.tmp rfl RVal.nil))) Pick.nil ?_
          rfl
        · rw [if_neg hc]
          have kh := fun (w' : World) (h : View.le M (View.of w')) => hash_spec h hL hS hSb c hlb (labB_len hlv) (t := chB) (by decide) (xs := []) (k := 0) (cc := 0) (a := none) (b := 0) (o := 0) rfl (by omega) SlA.none' (fun x hx => by cases hx) (fun x hx => by cases hx) (by simp)
          have hE : tagd (intsB chB) (frB S l 0 (([] : List (It 7)).flatMap (encI 7))) = chE S l := by unfold chE; rfl
          rw [hE] at kh
          have kn := fun (w' : World) => number_spec w' (chE_length S l) (isB_chE S l) (m := m) (by omega)
          rw [show numB (chE S l) 16 % m = chN S l m from rfl] at kn
          have hC : (chE S l).length = 32 := chE_length _ _
          generalize chN S l m = n at *
          have ka := fun (w' : World) (h : View.le M (View.of w')) => absorbN_spec h hL hS hSb hlb n hv hlv hc
          have hR : (abE S l (lfN n)).length = 32 := abE_length _ _ _
          generalize abE S l (lfN n) = R at *
          generalize chE S l = H at *
          repeat' first
            | apply cw_seq
            | (refine cw_region_id 0 ?_; (apply ol_val; exact rfl; first | (apply s_boxN; exact rfl; intro bk3) | (apply s_box1; exact rfl; exact rfl; intro bk3)); (apply ol_val; exact rfl; apply s_alloc; exact zb_25; (focus ((repeat constructor); done)); intro bk6); (apply ol_as; exact rfl; exact rfl); (apply ol_as; exact rfl; exact rfl); (apply ol_nil))
            | (refine cw_region_id 1 ?_; (apply ol_ldN; exact rfl; exact rfl; exact rfl; exact sz_25; (first | (apply RdN.own; (focus ((repeat constructor); done)); (focus ((repeat (first | exact rfl | constructor)); done))) | (apply RdN.own; (repeat (first | exact Has.here | apply Has.there)); (first | exact getTr_all hS | exact getTr_c hS | exact getTr_S hS | exact getTr_all hR)))); (apply ol_val; exact rfl; apply s_callv; exact rfl; exact gf_17; (intro w' hw'; exact kv w')); (apply ol_val; exact rfl; apply stp_pur; first | (apply s_not_t; exact rfl; (first | exact rfl | assumption)) | (apply s_not_f; exact rfl; (first | exact rfl | assumption)) | (apply s_not; exact rfl)); (apply ol_mv; exact rfl; exact rfl); (first | (apply ol_gskip; exact rfl; exact rfl; (first | exact rfl | assumption); exact rfl) | (apply ol_gval; exact rfl; exact rfl; exact rfl; (first | exact rfl | assumption); apply stp_pur; apply s_move; exact rfl)); (first | (apply ol_gskip; exact rfl; exact rfl; (first | exact rfl | assumption); exact rfl) | (apply ol_gval; exact rfl; exact rfl; exact rfl; (first | exact rfl | assumption); apply s_callv; exact rfl; exact gf_18; (intro w' hw'; exact kl w'))); (first | (apply ol_gskip; exact rfl; exact rfl; (first | exact rfl | assumption); exact rfl) | (apply ol_gval; exact rfl; exact rfl; exact rfl; (first | exact rfl | assumption); apply stp_pur; first | (apply s_not_t; exact rfl; (first | exact rfl | assumption)) | (apply s_not_f; exact rfl; (first | exact rfl | assumption)) | (apply s_not; exact rfl))); (apply ol_val; exact rfl; apply stp_pur; first | (apply s_pick_t; exact rfl; (first | exact rfl | assumption); exact rfl) | (apply s_pick_f; exact rfl; (first | exact rfl | assumption); exact rfl)); (apply ol_as; exact rfl; exact rfl); (apply ol_nil))
            | (refine cw_region_id 3 ?_; (apply ol_mv; exact rfl; exact rfl); (apply ol_val; exact rfl; apply stp_cmp; apply s_lss; exact rfl; exact rfl; all_goals (intro hc25; try (exfalso; (first | exact hc25 rfl | omega)))); all_goals (apply ol_mv; exact rfl; exact rfl); all_goals (first | (apply ol_gskip; exact rfl; exact rfl; (first | exact rfl | assumption); exact rfl) | (apply ol_gval; exact rfl; exact rfl; exact rfl; (first | exact rfl | assumption); apply stp_pur; apply s_move; exact rfl)); all_goals (first | (apply ol_gskip; exact rfl; exact rfl; (first | exact rfl | assumption); exact rfl) | (apply ol_gval; exact rfl; exact rfl; exact rfl; (first | exact rfl | assumption); apply stp_cmp; apply s_geq; exact rfl; exact rfl; all_goals (intro hc28; try (exfalso; (first | exact hc28 rfl | omega))))); all_goals (apply ol_val; exact rfl; apply stp_pur; first | (apply s_pick_t; exact rfl; (first | exact rfl | assumption); exact rfl) | (apply s_pick_f; exact rfl; (first | exact rfl | assumption); exact rfl)); all_goals (apply ol_as; exact rfl; exact rfl); all_goals (apply ol_nil))
            | (refine cw_region_id 5 ?_; (apply ol_fa; exact rfl; exact rfl; exact fd_25_1; (first | exact Nat.zero_add _ | exact Nat.add_zero _ | exact rfl)); (apply ol_ld; exact rfl; exact rfl; exact rfl; (first | (apply RdN.own; (focus ((repeat constructor); done)); (first | exact GetN.cons rfl GetN.nil | (apply getN_ints_app; (first | omega | (simp; omega) | (simp; done))) | (apply getN_ints; (first | omega | (simp; omega) | (simp; done))))) | (apply RdN.own; (repeat (first | exact Has.here | apply Has.there)); (first | exact getTr_all hS | exact getTr_c hS | exact getTr_S hS | exact getTr_all hR)))); (apply ol_val; exact rfl; apply stp_cmp; apply s_eql; exact rfl; exact rfl; all_goals (intro hc34; try (exfalso; (first | exact hc34 rfl | omega)))); all_goals (apply ol_as; exact rfl; exact rfl); all_goals (apply ol_nil))
            | (refine cw_region_id 7 ?_; (apply ol_ldN; exact rfl; exact rfl; exact rfl; exact sz_25; (first | (apply RdN.own; (focus ((repeat constructor); done)); (focus ((repeat (first | exact rfl | constructor)); done))) | (apply RdN.own; (repeat (first | exact Has.here | apply Has.there)); (first | exact getTr_all hS | exact getTr_c hS | exact getTr_S hS | exact getTr_all hR)))); (apply ol_mv; exact rfl; exact rfl); (apply ol_val; exact rfl; apply s_callv; exact rfl; exact gf_19; (intro w' hw'; exact kh w' hw'.le)); (apply ol_mv; exact rfl; exact rfl); (apply ol_ex; exact rfl; exact rfl; exact rfl); (apply ol_ex; exact rfl; exact rfl; exact rfl); (apply ol_val; exact rfl; apply s_allocK; exact zk_23; intro bk9); (apply ol_eff; first | (apply s_storeK; exact rfl; exact rfl; exact sz_23; (focus ((repeat constructor); done)); (first | assumption | (rw [List.length_replicate])); (first | assumption | (rw [List.length_replicate]))) | (apply s_storeN; exact rfl; exact rfl; exact sz_23; (first | exact trE_length hR | exact trE_length z32_length); exact trE_ones; (focus ((repeat (first | exact Repl.here | apply Repl.there)); done)); (first | exact setN_all (trE_length hR).symm | exact setN_all (trE_length z32_length).symm))); (apply ol_as; exact rfl; exact rfl); (apply ol_nil))
            | (refine cw_region_id 8 ?_; (apply ol_mv; exact rfl; exact rfl); (apply ol_val; exact rfl; apply stp_cmp; apply s_neq; exact rfl; exact rfl; all_goals (intro hc43; try (exfalso; (first | exact hc43 rfl | omega)))); all_goals (apply ol_nil))
            | (refine cw_region_id 10 ?_; (apply ol_ldN; exact rfl; exact rfl; exact rfl; exact sz_23; (first | (apply RdN.own; (focus ((repeat constructor); done)); (apply getNK_all; (first | assumption | (rw [List.length_replicate])))) | (apply RdN.own; (repeat (first | exact Has.here | apply Has.there)); (first | exact getTr_all hS | exact getTr_c hS | exact getTr_S hS | exact getTr_all hR)))); (apply ol_mv; exact rfl; exact rfl); (apply ol_val; exact rfl; apply s_callv; exact rfl; exact gf_20; (intro w' hw'; exact kn w')); (apply ol_mv; exact rfl; exact rfl); (apply ol_ex; exact rfl; exact rfl; exact rfl); (apply ol_ex; exact rfl; exact rfl; exact rfl); (apply ol_as; exact rfl; exact rfl); (apply ol_as; exact rfl; exact rfl); (apply ol_nil))
            | (refine cw_region_id 11 ?_; (apply ol_mv; exact rfl; exact rfl); (apply ol_val; exact rfl; apply stp_cmp; apply s_neq; exact rfl; exact rfl; all_goals (intro hc53; try (exfalso; (first | exact hc53 rfl | omega)))); all_goals (apply ol_nil))
            | (refine cw_region_id 13 ?_; (apply ol_ldN; exact rfl; exact rfl; exact rfl; exact sz_25; (first | (apply RdN.own; (focus ((repeat constructor); done)); (focus ((repeat (first | exact rfl | constructor)); done))) | (apply RdN.own; (repeat (first | exact Has.here | apply Has.there)); (first | exact getTr_all hS | exact getTr_c hS | exact getTr_S hS | exact getTr_all hR)))); (apply ol_mv; exact rfl; exact rfl); (apply ol_mv; exact rfl; exact rfl); (apply ol_val; exact rfl; apply stp_pur; first | (apply s_buildS; exact rfl; exact fs_41; exact zb_41; first | exact Fil.tr hR rfl | exact Fil.tr0 hR rfl rfl | exact Fil.z32) | (apply s_buildS; exact rfl; exact fs_41; exact zb_41; (focus ((repeat (first | exact rfl | constructor)); done)))); (apply ol_val; exact rfl; apply s_callv; exact rfl; exact gf_10; (intro w' hw'; exact ka w' hw'.le)); (apply ol_mv; exact rfl; exact rfl); (apply ol_ex; exact rfl; exact rfl; exact rfl); (apply ol_ex; exact rfl; exact rfl; exact rfl); (apply ol_val; exact rfl; apply s_alloc; exact zb_25; (focus ((repeat constructor); done)); intro bk12); (apply ol_eff; first | (apply s_storeN; exact rfl; exact rfl; exact sz_25; exact rfl; exact rfl; (focus ((repeat constructor); done)); (focus ((repeat constructor); done))) | (apply s_storeN; exact rfl; exact rfl; exact sz_25; (first | exact trE_length hR | exact trE_length z32_length); exact trE_ones; (focus ((repeat (first | exact Repl.here | apply Repl.there)); done)); (first | exact setN_all (trE_length hR).symm | exact setN_all (trE_length z32_length).symm))); (apply ol_as; exact rfl; exact rfl); (apply ol_nil))
            | (refine cw_region_id 14 ?_; (apply ol_mv; exact rfl; exact rfl); (apply ol_val; exact rfl; apply stp_cmp; apply s_neq; exact rfl; exact rfl; all_goals (intro hc65; try (exfalso; (first | exact hc65 rfl | omega)))); all_goals (apply ol_nil))
            | (refine cw_region_id 16 ?_; (apply ol_ldN; exact rfl; exact rfl; exact rfl; exact sz_25; (first | (apply RdN.own; (focus ((repeat constructor); done)); (focus ((repeat (first | exact rfl | constructor)); done))) | (apply RdN.own; (repeat (first | exact Has.here | apply Has.there)); (first | exact getTr_all hS | exact getTr_c hS | exact getTr_S hS | exact getTr_all hR)))); (apply ol_mv; exact rfl; exact rfl); (apply ol_eff; first | (apply s_storeN; exact rfl; exact rfl; exact sz_25; exact rfl; exact rfl; (focus ((repeat constructor); done)); (focus ((repeat constructor); done))) | (apply s_storeN; exact rfl; exact rfl; exact sz_25; (first | exact trE_length hR | exact trE_length z32_length); exact trE_ones; (focus ((repeat (first | exact Repl.here | apply Repl.there)); done)); (first | exact setN_all (trE_length hR).symm | exact setN_all (trE_length z32_length).symm))); (apply ol_as; exact rfl; exact rfl); (apply ol_as; exact rfl; exact rfl); (apply ol_nil))
            | (apply cw_cond_true; exact rfl; (first | exact rfl | assumption))
            | (apply cw_cond_false; exact rfl; (first | exact rfl | assumption))
            | apply cw_skip
            | apply cw_ret
            | apply cw_block
            | apply cw_exit
          refine ends [] (RVal.cellN rfl rfl rfl (RdN.own (by (repeat (first | exact Has.here | apply Has.there))) (getTr_all hR)) (RVal.tmp rfl (RVal.tmp rfl RVal.nil))) Pick.nil ?_
          rfl
    | false =>
      rw [if_neg (by simp)]
      rw [hlv] at kl
      repeat' first
        | apply cw_seq
        | (refine cw_region_id 0 ?_; (apply ol_val; exact rfl; first | (apply s_boxN; exact rfl; intro bk3) | (apply s_box1; exact rfl; exact rfl; intro bk3)); (apply ol_val; exact rfl; apply s_alloc; exact zb_25; (focus ((repeat constructor); done)); intro bk6); (apply ol_as; exact rfl; exact rfl); (apply ol_as; exact rfl; exact rfl); (apply ol_nil))
        | (refine cw_region_id 1 ?_; (apply ol_ldN; exact rfl; exact rfl; exact rfl; exact sz_25; (first | (apply RdN.own; (focus ((repeat constructor); done)); (focus ((repeat (first | exact rfl | constructor)); done))) | (apply RdN.own; (repeat (first | exact Has.here | apply Has.there)); (first | exact getTr_all hS | exact getTr_c hS | exact getTr_S hS | exact getTr_all hR)))); (apply ol_val; exact rfl; apply s_callv; exact rfl; exact gf_17; (intro w' hw'; exact kv w')); (apply ol_val; exact rfl; apply stp_pur; first | (apply s_not_t; exact rfl; (first | exact rfl | assumption)) | (apply s_not_f; exact rfl; (first | exact rfl | assumption)) | (apply s_not; exact rfl)); (apply ol_mv; exact rfl; exact rfl); (first | (apply ol_gskip; exact rfl; exact rfl; (first | exact rfl | assumption); exact rfl) | (apply ol_gval; exact rfl; exact rfl; exact rfl; (first | exact rfl | assumption); apply stp_pur; apply s_move; exact rfl)); (first | (apply ol_gskip; exact rfl; exact rfl; (first | exact rfl | assumption); exact rfl) | (apply ol_gval; exact rfl; exact rfl; exact rfl; (first | exact rfl | assumption); apply s_callv; exact rfl; exact gf_18; (intro w' hw'; exact kl w'))); (first | (apply ol_gskip; exact rfl; exact rfl; (first | exact rfl | assumption); exact rfl) | (apply ol_gval; exact rfl; exact rfl; exact rfl; (first | exact rfl | assumption); apply stp_pur; first | (apply s_not_t; exact rfl; (first | exact rfl | assumption)) | (apply s_not_f; exact rfl; (first | exact rfl | assumption)) | (apply s_not; exact rfl))); (apply ol_val; exact rfl; apply stp_pur; first | (apply s_pick_t; exact rfl; (first | exact rfl | assumption); exact rfl) | (apply s_pick_f; exact rfl; (first | exact rfl | assumption); exact rfl)); (apply ol_as; exact rfl; exact rfl); (apply ol_nil))
        | (refine cw_region_id 2 ?_; (apply ol_val; exact rfl; apply stp_pur; first | (apply s_buildS; exact rfl; exact fs_25; exact zb_25; first | exact Fil.tr hR rfl | exact Fil.tr0 hR rfl rfl | exact Fil.z32) | (apply s_buildS; exact rfl; exact fs_25; exact zb_25; (focus ((repeat (first | exact Fil.nil | (apply Fil.one; exact rfl; exact rfl; (repeat (first | exact SetAt.zero | apply SetAt.succ))) | (apply Fil.agg; exact rfl; exact rfl; (repeat (first | exact SetN.nil | (apply SetN.cons; (repeat (first | exact SetAt.zero | apply SetAt.succ))))); (exact Nat.le_of_ble_eq_true rfl)))); done)))); (apply ol_eff; first | (apply s_storeN; exact rfl; exact rfl; exact sz_25; exact rfl; exact rfl; (focus ((repeat constructor); done)); (focus ((repeat constructor); done))) | (apply s_storeN; exact rfl; exact rfl; exact sz_25; (first | exact trE_length hR | exact trE_length z32_length); exact trE_ones; (focus ((repeat (first | exact Repl.here | apply Repl.there)); done)); (first | exact setN_all (trE_length hR).symm | exact setN_all (trE_length z32_length).symm))); (apply ol_as; exact rfl; exact rfl); (apply ol_as; exact rfl; exact rfl); (apply ol_nil))
        | (apply cw_cond_true; exact rfl; (first | exact rfl | assumption))
        | (apply cw_cond_false; exact rfl; (first | exact rfl | assumption))
        | apply cw_skip
        | apply cw_ret
        | apply cw_block
        | apply cw_exit
      refine ends [] (RVal.cellN rfl rfl rfl (RdN.own (by (repeat (first | exact Has.here | apply Has.there))) (getTr_all z32_length)) (RVal.tmp rfl (RVal.tmp rfl RVal.nil))) Pick.nil ?_
      rfl
  · rw [decide_eq_false hv] at kv
    rw [if_neg (fun h => hv h.1)]
    repeat' first
      | apply cw_seq
      | (refine cw_region_id 0 ?_; (apply ol_val; exact rfl; first | (apply s_boxN; exact rfl; intro bk3) | (apply s_box1; exact rfl; exact rfl; intro bk3)); (apply ol_val; exact rfl; apply s_alloc; exact zb_25; (focus ((repeat constructor); done)); intro bk6); (apply ol_as; exact rfl; exact rfl); (apply ol_as; exact rfl; exact rfl); (apply ol_nil))
      | (refine cw_region_id 1 ?_; (apply ol_ldN; exact rfl; exact rfl; exact rfl; exact sz_25; (first | (apply RdN.own; (focus ((repeat constructor); done)); (focus ((repeat (first | exact rfl | constructor)); done))) | (apply RdN.own; (repeat (first | exact Has.here | apply Has.there)); (first | exact getTr_all hS | exact getTr_c hS | exact getTr_S hS | exact getTr_all hR)))); (apply ol_val; exact rfl; apply s_callv; exact rfl; exact gf_17; (intro w' hw'; exact kv w')); (apply ol_val; exact rfl; apply stp_pur; first | (apply s_not_t; exact rfl; (first | exact rfl | assumption)) | (apply s_not_f; exact rfl; (first | exact rfl | assumption)) | (apply s_not; exact rfl)); (apply ol_mv; exact rfl; exact rfl); (first | (apply ol_gskip; exact rfl; exact rfl; (first | exact rfl | assumption); exact rfl) | (apply ol_gval; exact rfl; exact rfl; exact rfl; (first | exact rfl | assumption); apply stp_pur; apply s_move; exact rfl)); (first | (apply ol_gskip; exact rfl; exact rfl; (first | exact rfl | assumption); exact rfl) | (apply ol_gval; exact rfl; exact rfl; exact rfl; (first | exact rfl | assumption); apply s_callv; exact rfl; exact gf_18; (intro w' hw'; exact kl w'))); (first | (apply ol_gskip; exact rfl; exact rfl; (first | exact rfl | assumption); exact rfl) | (apply ol_gval; exact rfl; exact rfl; exact rfl; (first | exact rfl | assumption); apply stp_pur; first | (apply s_not_t; exact rfl; (first | exact rfl | assumption)) | (apply s_not_f; exact rfl; (first | exact rfl | assumption)) | (apply s_not; exact rfl))); (apply ol_val; exact rfl; apply stp_pur; first | (apply s_pick_t; exact rfl; (first | exact rfl | assumption); exact rfl) | (apply s_pick_f; exact rfl; (first | exact rfl | assumption); exact rfl)); (apply ol_as; exact rfl; exact rfl); (apply ol_nil))
      | (refine cw_region_id 2 ?_; (apply ol_val; exact rfl; apply stp_pur; first | (apply s_buildS; exact rfl; exact fs_25; exact zb_25; first | exact Fil.tr hR rfl | exact Fil.tr0 hR rfl rfl | exact Fil.z32) | (apply s_buildS; exact rfl; exact fs_25; exact zb_25; (focus ((repeat (first | exact Fil.nil | (apply Fil.one; exact rfl; exact rfl; (repeat (first | exact SetAt.zero | apply SetAt.succ))) | (apply Fil.agg; exact rfl; exact rfl; (repeat (first | exact SetN.nil | (apply SetN.cons; (repeat (first | exact SetAt.zero | apply SetAt.succ))))); (exact Nat.le_of_ble_eq_true rfl)))); done)))); (apply ol_eff; first | (apply s_storeN; exact rfl; exact rfl; exact sz_25; exact rfl; exact rfl; (focus ((repeat constructor); done)); (focus ((repeat constructor); done))) | (apply s_storeN; exact rfl; exact rfl; exact sz_25; (first | exact trE_length hR | exact trE_length z32_length); exact trE_ones; (focus ((repeat (first | exact Repl.here | apply Repl.there)); done)); (first | exact setN_all (trE_length hR).symm | exact setN_all (trE_length z32_length).symm))); (apply ol_as; exact rfl; exact rfl); (apply ol_as; exact rfl; exact rfl); (apply ol_nil))
      | (apply cw_cond_true; exact rfl; (first | exact rfl | assumption))
      | (apply cw_cond_false; exact rfl; (first | exact rfl | assumption))
      | apply cw_skip
      | apply cw_ret
      | apply cw_block
      | apply cw_exit
    refine ends [] (RVal.cellN rfl rfl rfl (RdN.own (by (repeat (first | exact Has.here | apply Has.there))) (getTr_all z32_length)) (RVal.tmp rfl (RVal.tmp rfl RVal.nil))) Pick.nil ?_
    rfl
end Go.Proofs.YtkbbbflojebfgaaDoor

/-
  The reference's frame.
-/
namespace Go.Proofs.YtkbbbflojebfgaaDoor
set_option maxRecDepth 20000
set_option linter.unusedSimpArgs false
set_option linter.unusedVariables false
open Go Go.Fw
/-- A frame that is handed back. -/
def FrR (S l : List Int) (xs : List (It 7)) (v : Value) (new : List OB) : Prop :=
  ∃ (r : Option Nat) (c : Nat) (sp : List Value) (rS : Option Nat) (cS : Nat) (sS : List Value) (bl cl : Nat) (sl : List Value),
    v = .agg [.int .i64 3, .int .i64 0, .slice none 0 0, .slice (base r none) (2 + xs.length) c].toArray ∧ (r = none → False) ∧ (rS = none → False) ∧
    new = [⟨r, [.int .i64 2, .int .i64 0, .slice (base rS none) 32 cS, .slice none 0 0, .int .i64 2, .int .i64 0, .slice (base (some bl) none) l.length cl, .slice none 0 0] ++ flat It.enc xs ++ sp, 41⟩, ⟨rS, flat (eK .u8) S ++ sS, 5⟩, ⟨some bl, flat (eK .u8) l ++ sl, 5⟩]
/-- The frame, read where it lies. -/
theorem fr_own {w' : World} {S l : List Int} (hS : S.length = 32) (hSm : ∀ x ∈ S, 0 ≤ x ∧ x ≤ 255) (hlb : ∀ x ∈ l, 0 ≤ x ∧ x ≤ 255) (hl : l.length ≤ 24) {xs : List (It 7)} (hk1 : xs.length ≤ 40) (hx : ∀ x ∈ xs, ItV (View.of w') 7 x) (hok : ∀ x ∈ xs, okI 7 x = true)
    {r : Option Nat} {A : Option Addr} {c : Nat} {sp : List Value} {rS : Option Nat} {cS : Nat} {sS : List Value} {bl cl : Nat} {sl : List Value} (h1 : r = none → False) (h2 : rS = none → False)
    (o1 : OB.ok ⟨r, [.int .i64 2, .int .i64 0, .slice (base rS none) 32 cS, .slice none 0 0, .int .i64 2, .int .i64 0, .slice (base (some bl) none) l.length cl, .slice none 0 0] ++ flat It.enc xs ++ sp, 41⟩ w') (o2 : OB.ok ⟨rS, flat (eK .u8) S ++ sS, 5⟩ w') (o3 : OB.ok ⟨some bl, flat (eK .u8) l ++ sl, 5⟩ w') :
    ∃ x : It 8, x.enc = [.int .i64 3, .int .i64 0, .slice none 0 0, .slice (base r A) (2 + xs.length) c] ∧ ItV (View.of w') 8 x ∧ okI 8 x = true ∧ encI 8 x = frB S l xs.length (xs.flatMap (encI 7)) := by
  rw [← two_leaves hS rfl (oS := 0) (bS := rS.getD 0) (bl := bl) (ol := 0)] at o1
  have hS2 : SlA (View.of w') (eK .u8) 1 (base rS none) S (rS.getD 0) 0 := SlA.own (A := none) (eK_length .u8) o2 (fun h => (h2 h).elim)
  have hl2 : SlA (View.of w') (eK .u8) 1 (base (some bl) none) l bl 0 := SlA.own (A := none) (eK_length .u8) o3 (fun h => by cases h)
  exact fr_item (c := c) hS2 hl2 hSm hlb (by omega) (by omega) rfl hk1 rfl (SlA.own (A := A) It.enc_length o1 (fun h => (h1 h).elim)) hx hok
end Go.Proofs.YtkbbbflojebfgaaDoor
namespace Go.Proofs.YtkbbbflojebfgaaDoor
set_option maxRecDepth 20000
set_option linter.unusedSimpArgs false
set_option linter.unusedVariables false
open Go Go.Fw
attribute [local irreducible] CW OL OD FX Stp FnC FnV FnA Ret bI encI okI trE sha strOf frB encP tagd newE chE diE abE labB numB lfN
set_option maxHeartbeats 800000
theorem frame_spec {M : View} {w : World} (hM : View.le M (View.of w)) {S : List Int} (hS : S.length = 32) (c : Int) {l : List Int} (hlb : ∀ x ∈ l, 0 ≤ x ∧ x ≤ 255) (hl : 1 ≤ l.length ∧ l.length ≤ 24)
    {xs : List (It 7)} {k cc : Nat} {a : Option Addr} {b o : Nat} (hk : xs.length = k) (hk1 : k ≤ 40) (s : SlA M It.enc 4 a xs b o) :
    FnC Tryd.prog 25 [.agg (trE S c).toArray, .string (strOf l), .slice a k cc] w (FrR S l xs) := by
  subst hk
  have hsz := strOf_size l
  have hin := intsB_strOf hlb
  refine enterF (M := M) Tryd.func25 rfl rfl rfl rfl hM ?_
  repeat' first
    | apply cw_seq
    | (refine cw_region_id 0 ?_; (apply ol_val; exact rfl; first | (apply s_boxN; exact rfl; intro bk3) | (apply s_box1; exact rfl; exact rfl; intro bk3)); (apply ol_val; exact rfl; apply s_alloc; exact zb_41; (focus ((repeat constructor); done)); intro bk6); (apply ol_nil))
    | (refine cw_region_id 1 ?_; (apply ol_val; exact rfl; apply s_buildSl; exact rfl; exact el_38; exact sz_5; exact zb_5; (focus ((repeat constructor); done)); exact rfl; exact rfl; (exact Nat.le_of_ble_eq_true rfl); (focus ((repeat constructor); done)); (focus ((repeat (first | exact rfl | constructor)); done)); intro bk8); (apply ol_fa; exact rfl; exact rfl; exact fd_25_0; (first | exact Nat.zero_add _ | exact Nat.add_zero _ | exact rfl)); (apply ol_val; exact rfl; apply stp_pur; apply s_sliceP; exact rfl; exact ar_23; exact sz_5; exact rfl; exact rfl; exact rfl; (intro h; first | exact rfl | cases h); (first | omega | (simp; omega) | (simp; done)); (first | omega | (simp; omega) | (simp; done)); (first | omega | (simp; omega) | (simp; done))); (apply ol_val; exact rfl; first | (apply s_append_e; exact rfl; exact rfl; (focus ((repeat constructor); done)); exact el_38; exact sz_5; exact zb_5; exact rfl; exact by_5; (first | exact (fun _ => rfl) | (intro _; exact s.at_ (by omega))); (first | (apply RdN.own; (focus ((repeat constructor); done)); (focus ((repeat (first | exact rfl | constructor)); done))) | (apply RdN.own; (repeat (first | exact Has.here | apply Has.there)); exact getTr_S hS) | (apply RdN.view; exact s.all It.enc_length)); (first | exact rfl | exact ones_flat It.ones xs | exact flatK_ones); (first | omega | (simp; omega) | (simp; done)); (first | omega | (simp; omega) | (simp; done)); intro rk11 sk11 ck11 ok11) | (apply s_append_r; exact rfl; exact rfl; (focus ((repeat constructor); done)); (first | exact rfl | exact (List.append_nil _).symm); exact el_38; exact sz_5; exact zb_5; exact rfl; exact by_5; (first | exact SO.nil _ | assumption | (exact ⟨by simp, by simp, Nat.le_refl _, by simp⟩)); (first | exact (fun _ => rfl) | (intro _; exact s.at_ (by omega))); (first | (apply RdN.own; (focus ((repeat constructor); done)); (focus ((repeat (first | exact rfl | constructor)); done))) | (apply RdN.own; (repeat (first | exact Has.here | apply Has.there)); exact getTr_S hS) | (apply RdN.view; exact s.all It.enc_length)); (first | exact rfl | exact ones_flat It.ones xs | exact flatK_ones); (first | omega | (simp; omega) | (simp; done)); (first | omega | (simp; omega) | (simp; done)); intro rk11 sk11 ck11 ok11) | (apply s_append_b; exact rfl; exact rfl; (focus ((repeat constructor); done)); (first | exact rfl | exact (List.append_nil _).symm); exact el_38; exact sz_5; exact zb_5; exact rfl; exact by_5; (first | exact SO.nil _ | assumption | (exact ⟨by simp, by simp, Nat.le_refl _, by simp⟩)); (first | exact (fun _ => rfl) | (intro _; exact s.at_ (by omega))); (first | (apply RdN.own; (focus ((repeat constructor); done)); (focus ((repeat (first | exact rfl | constructor)); done))) | (apply RdN.own; (repeat (first | exact Has.here | apply Has.there)); exact getTr_S hS) | (apply RdN.view; exact s.all It.enc_length)); (first | exact rfl | exact ones_flat It.ones xs | exact flatK_ones); (first | omega | (simp; omega) | (simp; done)); (first | omega | (simp; omega) | (simp; done)); intro rk11 sk11 ck11 ok11) | (apply s_append_n; exact rfl; exact rfl; (focus ((repeat constructor); done)); exact el_38; exact sz_5; exact zb_5; exact rfl; exact by_5; (first | exact (fun _ => rfl) | (intro _; exact s.at_ (by omega))); (first | (apply RdN.own; (focus ((repeat constructor); done)); (focus ((repeat (first | exact rfl | constructor)); done))) | (apply RdN.own; (repeat (first | exact Has.here | apply Has.there)); exact getTr_S hS) | (apply RdN.view; exact s.all It.enc_length)); (first | exact rfl | exact ones_flat It.ones xs | exact flatK_ones); (first | omega | (simp; omega) | (simp; done)); (first | omega | (simp; omega) | (simp; done)); intro rk11 sk11 ck11 ok11)); (apply ol_val; exact rfl; apply stp_pur; apply s_buildS; exact rfl; exact fs_41; exact zb_41; (focus ((repeat (first | exact rfl | constructor)); done))); (apply ol_mv; exact rfl; exact rfl); (apply ol_val; exact rfl; apply s_convSB; exact rfl; exact us_9; exact el_38; exact tdInt_eq ti_5; intro bk14 ck14 sk14 ok14); (apply ol_val; exact rfl; apply stp_pur; apply s_buildS; exact rfl; exact fs_41; exact zb_41; (focus ((repeat (first | exact rfl | constructor)); done))); (apply ol_val; exact rfl; apply s_buildSl; exact rfl; exact el_39; exact sz_41; exact zb_41; (focus ((repeat constructor); done)); exact rfl; exact rfl; (exact Nat.le_of_ble_eq_true rfl); (focus ((repeat constructor); done)); (focus ((repeat (first | exact Fil.nil | (apply Fil.one; exact rfl; exact rfl; (repeat (first | exact SetAt.zero | apply SetAt.succ))) | (apply Fil.agg; exact rfl; exact rfl; (repeat (first | exact SetN.nil | (apply SetN.cons; (repeat (first | exact SetAt.zero | apply SetAt.succ))))); (exact Nat.le_of_ble_eq_true rfl)))); done)); intro bk16); (apply ol_as; exact rfl; exact rfl); (apply ol_nil))
    | (refine cw_region_id 2 ?_; (apply ol_mv; exact rfl; exact rfl); (apply ol_mv; exact rfl; exact rfl); (apply ol_val; exact rfl; first | (apply s_append_e; exact rfl; exact rfl; (focus ((repeat constructor); done)); exact el_39; exact sz_41; exact zb_41; exact rfl; exact by_41; (first | exact (fun _ => rfl) | (intro _; exact s.at_ (by omega))); (first | (apply RdN.own; (focus ((repeat constructor); done)); (focus ((repeat (first | exact rfl | constructor)); done))) | (apply RdN.own; (repeat (first | exact Has.here | apply Has.there)); exact getTr_S hS) | (apply RdN.view; exact s.all It.enc_length)); (first | exact rfl | exact ones_flat It.ones xs | exact flatK_ones); (first | omega | (simp; omega) | (simp; done)); (first | omega | (simp; omega) | (simp; done)); intro rk19 sk19 ck19 ok19) | (apply s_append_r; exact rfl; exact rfl; (focus ((repeat constructor); done)); (first | exact rfl | exact (List.append_nil _).symm); exact el_39; exact sz_41; exact zb_41; exact rfl; exact by_41; (first | exact SO.nil _ | assumption | (exact ⟨by simp, by simp, Nat.le_refl _, by simp⟩)); (first | exact (fun _ => rfl) | (intro _; exact s.at_ (by omega))); (first | (apply RdN.own; (focus ((repeat constructor); done)); (focus ((repeat (first | exact rfl | constructor)); done))) | (apply RdN.own; (repeat (first | exact Has.here | apply Has.there)); exact getTr_S hS) | (apply RdN.view; exact s.all It.enc_length)); (first | exact rfl | exact ones_flat It.ones xs | exact flatK_ones); (first | omega | (simp; omega) | (simp; done)); (first | omega | (simp; omega) | (simp; done)); intro rk19 sk19 ck19 ok19) | (apply s_append_b; exact rfl; exact rfl; (focus ((repeat constructor); done)); (first | exact rfl | exact (List.append_nil _).symm); exact el_39; exact sz_41; exact zb_41; exact rfl; exact by_41; (first | exact SO.nil _ | assumption | (exact ⟨by simp, by simp, Nat.le_refl _, by simp⟩)); (first | exact (fun _ => rfl) | (intro _; exact s.at_ (by omega))); (first | (apply RdN.own; (focus ((repeat constructor); done)); (focus ((repeat (first | exact rfl | constructor)); done))) | (apply RdN.own; (repeat (first | exact Has.here | apply Has.there)); exact getTr_S hS) | (apply RdN.view; exact s.all It.enc_length)); (first | exact rfl | exact ones_flat It.ones xs | exact flatK_ones); (first | omega | (simp; omega) | (simp; done)); (first | omega | (simp; omega) | (simp; done)); intro rk19 sk19 ck19 ok19) | (apply s_append_n; exact rfl; exact rfl; (focus ((repeat constructor); done)); exact el_39; exact sz_41; exact zb_41; exact rfl; exact by_41; (first | exact (fun _ => rfl) | (intro _; exact s.at_ (by omega))); (first | (apply RdN.own; (focus ((repeat constructor); done)); (focus ((repeat (first | exact rfl | constructor)); done))) | (apply RdN.own; (repeat (first | exact Has.here | apply Has.there)); exact getTr_S hS) | (apply RdN.view; exact s.all It.enc_length)); (first | exact rfl | exact ones_flat It.ones xs | exact flatK_ones); (first | omega | (simp; omega) | (simp; done)); (first | omega | (simp; omega) | (simp; done)); intro rk19 sk19 ck19 ok19)); (apply ol_val; exact rfl; apply stp_pur; apply s_buildS; exact rfl; exact fs_41; exact zb_41; (focus ((repeat (first | exact rfl | constructor)); done))); (apply ol_eff; apply s_storeN; exact rfl; exact rfl; exact sz_41; exact rfl; exact rfl; (focus ((repeat constructor); done)); (focus ((repeat constructor); done))); (apply ol_nil))
    | (apply cw_cond_true; exact rfl; (first | exact rfl | assumption))
    | (apply cw_cond_false; exact rfl; (first | exact rfl | assumption))
    | apply cw_skip
    | apply cw_ret
    | apply cw_block
    | apply cw_exit
  have hrS : rk11 = none → False := fun h => by have := ok11.empty h; omega
  have hr : rk19 = none → False := fun h => by have := ok19.empty h; omega
  rw [hin, hsz]
  refine ends [⟨rk19, [.int .i64 2, .int .i64 0, .slice (base rk11 none) 32 ck11, .slice none 0 0, .int .i64 2, .int .i64 0, .slice (base (some bk14) none) l.length ck14, .slice none 0 0] ++ flat It.enc xs ++ sk19, 41⟩, ⟨rk11, flat (eK .u8) S ++ sk11, 5⟩, ⟨some bk14, flat (eK .u8) l ++ sk14, 5⟩] (RVal.cellN rfl rfl rfl (RdN.own (by (repeat (first | exact Has.here | apply Has.there))) (by focus ((repeat (first | exact rfl | constructor)); done))) RVal.nil) (by (repeat (first | exact Pick.nil | (apply Pick.cons; (focus ((repeat (first | exact Spl.here | apply Spl.there)); done))) | exact Pick.refl | exact Pick.skip1 | exact Pick.skip2))) ?_
  exact ⟨rk19, ck19, sk19, rk11, ck11, sk11, bk14, ck14, sk14, rfl, hr, hrS, rfl⟩
end Go.Proofs.YtkbbbflojebfgaaDoor

/-
  The reference's Absorb, Digest and Challenge.
-/
namespace Go.Proofs.YtkbbbflojebfgaaDoor
set_option maxRecDepth 20000
set_option linter.unusedSimpArgs false
set_option linter.unusedVariables false
open Go Go.Fw
/-- The blocks of a frame, in the store. -/
def FrO (S l : List Int) (xs : List (It 7)) (r : Option Nat) (n c : Nat) (w' : World) : Prop :=
  n = 2 + xs.length ∧ (r = none → False) ∧ ∃ (sp : List Value) (rS : Option Nat) (cS : Nat) (sS : List Value) (bl cl : Nat) (sl : List Value), (rS = none → False) ∧
    OB.ok ⟨r, [.int .i64 2, .int .i64 0, .slice (base rS none) 32 cS, .slice none 0 0, .int .i64 2, .int .i64 0, .slice (base (some bl) none) l.length cl, .slice none 0 0] ++ flat It.enc xs ++ sp, 41⟩ w' ∧ OB.ok ⟨rS, flat (eK .u8) S ++ sS, 5⟩ w' ∧ OB.ok ⟨some bl, flat (eK .u8) l ++ sl, 5⟩ w'
theorem FrO.item {w' : World} {S l : List Int} (hS : S.length = 32) (hSm : ∀ x ∈ S, 0 ≤ x ∧ x ≤ 255) (hlb : ∀ x ∈ l, 0 ≤ x ∧ x ≤ 255) (hl : l.length ≤ 24) {xs : List (It 7)} (hk1 : xs.length ≤ 40) (hx : ∀ x ∈ xs, ItV (View.of w') 7 x) (hok : ∀ x ∈ xs, okI 7 x = true)
    {r : Option Nat} {A : Option Addr} {n c : Nat} (h : FrO S l xs r n c w') :
    ∃ x : It 8, x.enc = [.int .i64 3, .int .i64 0, .slice none 0 0, .slice (base r A) n c] ∧ ItV (View.of w') 8 x ∧ okI 8 x = true ∧ encI 8 x = frB S l xs.length (xs.flatMap (encI 7)) := by
  obtain ⟨rfl, h1, sp, rS, cS, sS, bl, cl, sl, h2, o1, o2, o3⟩ := h
  exact fr_own hS hSm hlb hl hk1 hx hok h1 h2 o1 o2 o3
/-- Valid and Encode of a frame. -/
theorem FrO.valid {w' : World} {S l : List Int} (hS : S.length = 32) (hSm : ∀ x ∈ S, 0 ≤ x ∧ x ≤ 255) (hlb : ∀ x ∈ l, 0 ≤ x ∧ x ≤ 255) (hl : l.length ≤ 24) {xs : List (It 7)} (hk1 : xs.length ≤ 40) (hx : ∀ x ∈ xs, ItV (View.of w') 7 x) (hok : ∀ x ∈ xs, okI 7 x = true)
    {r : Option Nat} {n c : Nat} (h : FrO S l xs r n c w') :
    FnC Tryd.prog 38 [.agg [.int .i64 3, .int .i64 0, .slice none 0 0, .slice (base r none) n c].toArray] w' (fun v _ => v = .bool true) := by
  obtain ⟨x, e1, e2, e3, e4⟩ := FrO.item (A := none) hS hSm hlb hl hk1 hx hok h
  rw [← e1]
  have := rValid_spec (View.le.refl _) e2
  rw [e3] at this
  exact this
theorem FrO.encode {w' : World} {S l : List Int} (hS : S.length = 32) (hSm : ∀ x ∈ S, 0 ≤ x ∧ x ≤ 255) (hlb : ∀ x ∈ l, 0 ≤ x ∧ x ≤ 255) (hl : l.length ≤ 24) {xs : List (It 7)} (hk1 : xs.length ≤ 40) (hx : ∀ x ∈ xs, ItV (View.of w') 7 x) (hok : ∀ x ∈ xs, okI 7 x = true)
    (hlen : (xs.flatMap (encI 7)).length ≤ 16000) {r : Option Nat} {n c : Nat} (h : FrO S l xs r n c w') :
    FnC Tryd.prog 24 [.agg [.int .i64 3, .int .i64 0, .slice none 0 0, .slice (base r none) n c].toArray] w' (RowRes (eK .u8) 1 5 (frB S l xs.length (xs.flatMap (encI 7)))) := by
  obtain ⟨x, e1, e2, e3, e4⟩ := FrO.item (A := none) hS hSm hlb hl hk1 hx hok h
  have h5 := frB_length S l xs.length (xs.flatMap (encI 7))
  rw [← e1, ← e4]
  exact rencode_spec 8 (View.le.refl _) e2 e3 (by rw [e4]; omega)
end Go.Proofs.YtkbbbflojebfgaaDoor
namespace Go.Proofs.YtkbbbflojebfgaaDoor
set_option maxRecDepth 20000
set_option linter.unusedSimpArgs false
set_option linter.unusedVariables false
open Go Go.Fw
attribute [local irreducible] CW OL OD FX Stp FnC FnV FnA Ret bI encI okI trE sha strOf frB encP tagd newE chE diE abE labB numB lfN
set_option maxHeartbeats 800000
theorem rdigest_spec {M : View} {w : World} (hM : View.le M (View.of w)) {S : List Int} (hS : S.length = 32) (hSb : isB S) (c : Int) {l : List Int} (hlb : ∀ x ∈ l, 0 ≤ x ∧ x ≤ 255) (hl : 1 ≤ l.length ∧ l.length ≤ 24) :
    FnC Tryd.prog 16 [.agg (trE S c).toArray, .string (strOf l)] w (fun v _ => v = .agg (flat (eK .u8) (diE S l)).toArray) := by
  have hSm := isB_mem hSb
  have kF := fun (w' : World) => frame_spec (View.le.refl (View.of w')) hS c hlb hl (xs := []) (k := 0) (cc := 0) (a := none) (b := 0) (o := 0) rfl (by omega) SlA.none'
  have kE := fun (w' : World) {r : Option Nat} {n c : Nat} (h : FrO S l [] r n c w') => FrO.encode hS hSm hlb hl.2 (xs := []) (by simp) (fun x hx => by cases hx) (fun x hx => by cases hx) (by simp) h
  have hfb : isB (frB S l ([] : List (It 7)).length (([] : List (It 7)).flatMap (encI 7))) := isB.of (frB_b hSm hlb (fun x hx => by cases hx))
  have hfl := frB_length S l ([] : List (It 7)).length (([] : List (It 7)).flatMap (encI 7))
  have hfE : diE S l = tagd (intsB diB) (frB S l ([] : List (It 7)).length (([] : List (It 7)).flatMap (encI 7))) := by unfold diE; rfl
  have hR := diE_length S l
  rw [hfE] at hR ⊢
  have hf0 : (([] : List (It 7)).flatMap (encI 7)).length = 0 := rfl
  generalize frB S l ([] : List (It 7)).length (([] : List (It 7)).flatMap (encI 7)) = F at *
  have htag : ∀ (w' : World) {r : Option Nat} {A : Option Addr} {m c : Nat} {sp : List Value}, View.le M (View.of w') → OB.ok ⟨r, flat (eK .u8) F ++ sp, 5⟩ w' → m = F.length → (r = none → F = []) → FnC Tryd.prog 23 [.string diB, .slice (base r A) m c] w' (fun v _ => v = .agg (flat (eK .u8) (tagd (intsB diB) F)).toArray) := fun w' r A m c sp h1 h2 h3 h4 =>
    rtagged_spec (View.le.refl (View.of w')) (t := diB) (by decide) h3.symm (by omega) hfb (SlA.ownK h2 h4)
  generalize tagd (intsB diB) F = R at *
  unfold FrR at kF
  unfold RowRes at kE
  refine enterF (M := M) Tryd.func16 rfl rfl rfl rfl hM ?_
  repeat' first
    | apply cw_seq
    | (refine cw_region_id 0 ?_; (apply ol_val; exact rfl; first | (apply s_boxN; exact rfl; intro bk2) | (apply s_box1; exact rfl; exact rfl; intro bk2)); (apply ol_val; exact rfl; apply s_allocK; exact zk_23; intro bk4); (apply ol_nil))
    | (refine cw_region_id 1 ?_; (apply ol_ldN; exact rfl; exact rfl; exact rfl; exact sz_25; (first | (apply RdN.own; (focus ((repeat constructor); done)); (focus ((repeat (first | exact rfl | constructor)); done))) | (apply RdN.own; (repeat (first | exact Has.here | apply Has.there)); (first | exact getTr_all hS | exact getTr_c hS | exact getTr_S hS | exact getTr_all hR)))); (apply ol_mv; exact rfl; exact rfl); (apply ol_val; exact rfl; apply s_call; exact rfl; exact gf_25; (intro w' hw'; exact kF w'); ((intro v new h; obtain ⟨r7, c7, sp7, rS, cS, sS, bl, cl, sl, rfl, hr7, hrS, rfl⟩ := h))); (apply ol_val; exact rfl; apply s_call; exact rfl; exact gf_24; (intro w' hw'; exact kE w' ⟨rfl, hr7, sp7, rS, cS, sS, bl, cl, sl, hrS, hw'.ok_ (by (repeat (first | exact Has.here | apply Has.there))), hw'.ok_ (by (repeat (first | exact Has.here | apply Has.there))), hw'.ok_ (by (repeat (first | exact Has.here | apply Has.there)))⟩); ((intro v new h; obtain ⟨r8, A8, c8, s8, rfl, rfl, so8⟩ := h))); (apply ol_val; exact rfl; apply s_callv; exact rfl; exact gf_23; (intro w' hw'; exact htag w' hw'.le (hw'.ok_ (by (repeat (first | exact Has.here | apply Has.there)))) rfl (fun h => SO.emp so8 h))); (apply ol_eff; first | (apply s_storeK; exact rfl; exact rfl; exact sz_23; (focus ((repeat constructor); done)); (first | assumption | (rw [List.length_replicate])); (first | assumption | (rw [List.length_replicate]))) | (apply s_storeN; exact rfl; exact rfl; exact sz_23; (first | exact trE_length hR | exact trE_length z32_length); exact trE_ones; (focus ((repeat (first | exact Repl.here | apply Repl.there)); done)); (first | exact setN_all (trE_length hR).symm | exact setN_all (trE_length z32_length).symm))); (apply ol_nil))
    | (apply cw_cond_true; exact rfl; (first | exact rfl | assumption))
    | (apply cw_cond_false; exact rfl; (first | exact rfl | assumption))
    | apply cw_skip
    | apply cw_ret
    | apply cw_block
    | apply cw_exit
  refine ends [] (RVal.cellN rfl rfl rfl (RdN.own (by (repeat (first | exact Has.here | apply Has.there))) (getNK_all hR)) RVal.nil) Pick.nil ?_
  rfl
end Go.Proofs.YtkbbbflojebfgaaDoor
