/-
  The walks of Min, Max, Index and Transfers.
-/
import Derived.Test.YtidjoikheklpiaaW6
import Derived.Test.YtidjoikheklpiaaL2
namespace Go.Proofs.Ytidjoikheklpiaa
set_option maxRecDepth 20000
set_option linter.unusedSimpArgs false
set_option linter.unusedVariables false
open Go Go.Fw
attribute [local irreducible] CW OL OD FX Stp FnC Ret
set_option maxHeartbeats 8000000

theorem SlA.allInts {M : View} {a : Option Addr} {xs : List Int} {b off : Nat} (h : SlA M enc1 1 a xs b off) : GetN (M.cell b) off (xs.length * 1) (ints xs) := by
  have := SlA.all enc1_length h
  rwa [flat_enc1] at this

theorem take1 {p : List Int} (h : 0 < p.length) : p.take 1 = [p[0]] := by
  cases p with
  | nil => simp at h
  | cons x p => simp
theorem min_spec {M : View} {w : World} (hM : View.le M (View.of w)) {p : List Int} (h0 : 0 < p.length) (hl : p.length ≤ 4611686018427387904) {n : Nat} (hn : p.length = n) {a : Option Addr} {b o c : Nat} (s : SlA M enc1 1 a p b o) :
    FnC Try.prog 37 [.slice a n c] w (fun v _ => v = .int .i64 (lmin p)) := by
  subst hn
  refine enterF (M := M) Try.func37 rfl rfl rfl rfl hM ?_
  have h1 : lmin (p.take 1) = p[0] := by rw [take1 h0]; rfl
  repeat' first
    | apply cw_seq
    | (refine cw_region_id 0 ?_; (apply ol_as; exact rfl; exact rfl); (apply ol_nil))
    | (refine cw_region_id 1 ?_; (apply ol_mv; exact rfl; exact rfl); (apply ol_val; exact rfl; apply stp_pur; apply s_len; exact rfl; exact el_22); (apply ol_val; exact rfl; apply stp_cmp; apply s_lss; exact rfl; exact rfl; all_goals (intro hc7; try (exfalso; (first | exact hc7 rfl | omega)))); all_goals (apply ol_nil))
    | (refine cw_region_id 2 ?_)
    | (refine cw_region_id 3 ?_; (apply ol_mv; exact rfl; exact rfl); (apply ol_val; exact rfl; apply stp_pur; first | (apply s_indexK; exact rfl; exact rfl; exact el_22; exact sz_3; (first | exact rfl | exact s.at_ (by omega)); omega) | (apply s_indexO; exact rfl; exact rfl; exact el_22; exact sz_3; (first | exact rfl | exact s.at_ (by omega)); omega)); (apply ol_ld; exact rfl; exact rfl; exact rfl; (first | (apply RdN.own; (focus ((repeat constructor); done)); (first | exact GetN.cons rfl GetN.nil | (apply getN_ints_app; (first | omega | (simp; omega) | (simp; done))) | (apply getN_ints; (first | omega | (simp; omega) | (simp; done))))) | (apply RdN.view; exact s.cells 0 h0))); (apply ol_as; exact rfl; exact rfl); (apply ol_nil))
    | (refine cw_region_id 4 ?_; (apply ol_as; exact rfl; exact rfl); (apply ol_nil))
    | (apply cw_cond_true; exact rfl; (first | exact rfl | assumption))
    | (apply cw_cond_false; exact rfl; (first | exact rfl | assumption))
    | apply cw_skip
    | apply cw_ret
    | apply cw_block
    | apply cw_exit
  refine cw_loopK (σ := Nat) [0] (by (repeat (first | exact Keep.nil | (apply Keep.cons; exact rfl)))) (fun k => [(3, .int .i64 (lmin (p.take k))), (4, .int .i64 k)]) (fun _ => M) (fun _ => []) (fun k => 0 < k ∧ k ≤ p.length) (fun k => p.length - k) 1 (by rw [h1]; (repeat (first | exact trivial | refine And.intro rfl ?_))) (View.le.refl _) (by (repeat (first | exact Pick.nil | (apply Pick.cons; (focus ((repeat (first | exact Spl.here | apply Spl.there)); done))) | exact Pick.refl))) ⟨by omega, by omega⟩ ?_
  intro k ⟨hk0, hk⟩
  by_cases hk' : k < p.length
  ·
    repeat' first
      | apply cw_seq
      | (refine cw_region_id 5 ?_; (apply ol_mv; exact rfl; exact rfl); (apply ol_mv; exact rfl; exact rfl); (apply ol_val; exact rfl; apply stp_pur; apply s_len; exact rfl; exact el_22); (apply ol_val; exact rfl; apply stp_cmp; apply s_lss; exact rfl; exact rfl; all_goals (intro hc15; try (exfalso; (first | exact hc15 rfl | omega)))); all_goals (apply ol_nil))
      | (refine cw_region_id 7 ?_; (apply ol_mv; exact rfl; exact rfl); (apply ol_mv; exact rfl; exact rfl); (apply ol_mv; exact rfl; exact rfl); (apply ol_val; exact rfl; apply stp_pur; first | (apply s_indexK; exact rfl; exact rfl; exact el_22; exact sz_3; (first | exact rfl | exact s.at_ (by omega)); omega) | (apply s_indexO; exact rfl; exact rfl; exact el_22; exact sz_3; (first | exact rfl | exact s.at_ (by omega)); omega)); (apply ol_ld; exact rfl; exact rfl; exact rfl; (first | (apply RdN.own; (focus ((repeat constructor); done)); (first | exact GetN.cons rfl GetN.nil | (apply getN_ints_app; (first | omega | (simp; omega) | (simp; done))) | (apply getN_ints; (first | omega | (simp; omega) | (simp; done))))) | (apply RdN.view; exact s.cells k hk'))); (apply ol_val; exact rfl; apply stp_pur; apply s_min2; exact rfl; exact rfl; ); (apply ol_as; exact rfl; exact rfl); (apply ol_nil))
      | (refine cw_region_id 6 ?_; (apply ol_mv; exact rfl; exact rfl); (apply ol_val; exact rfl; apply stp_pur; apply s_add64; exact rfl; exact rfl; omega); (apply ol_as; exact rfl; exact rfl); (apply ol_nil))
      | (refine cw_region_id 8 ?_; (apply ol_mv; exact rfl; exact rfl); (apply ol_as; exact rfl; exact rfl); (apply ol_nil))
      | (apply cw_cond_true; exact rfl; (first | exact rfl | assumption))
      | (apply cw_cond_false; exact rfl; (first | exact rfl | assumption))
      | apply cw_skip
      | apply cw_ret
      | apply cw_block
      | apply cw_exit
    refine ⟨k + 1, ⟨?_, View.le.refl _, by (repeat (first | exact Pick.nil | (apply Pick.cons; (focus ((repeat (first | exact Spl.here | apply Spl.there)); done))) | exact Pick.refl)), ⟨by omega, hk'⟩, by omega⟩⟩
    rw [lmin_step hk0 hk']
    (repeat (first | exact trivial | refine And.intro rfl ?_))
  · have : k = p.length := by omega
    subst this
    rw [List.take_length]
    repeat' first
      | apply cw_seq
      | (refine cw_region_id 5 ?_; (apply ol_mv; exact rfl; exact rfl); (apply ol_mv; exact rfl; exact rfl); (apply ol_val; exact rfl; apply stp_pur; apply s_len; exact rfl; exact el_22); (apply ol_val; exact rfl; apply stp_cmp; apply s_lss; exact rfl; exact rfl; all_goals (intro hc15; try (exfalso; (first | exact hc15 rfl | omega)))); all_goals (apply ol_nil))
      | (refine cw_region_id 7 ?_; (apply ol_mv; exact rfl; exact rfl); (apply ol_mv; exact rfl; exact rfl); (apply ol_mv; exact rfl; exact rfl); (apply ol_val; exact rfl; apply stp_pur; first | (apply s_indexK; exact rfl; exact rfl; exact el_22; exact sz_3; (first | exact rfl); omega) | (apply s_indexO; exact rfl; exact rfl; exact el_22; exact sz_3; (first | exact rfl); omega)); (apply ol_ld; exact rfl; exact rfl; exact rfl; (apply RdN.own; (focus ((repeat constructor); done)); (first | exact GetN.cons rfl GetN.nil | (apply getN_ints_app; (first | omega | (simp; omega) | (simp; done))) | (apply getN_ints; (first | omega | (simp; omega) | (simp; done)))))); (apply ol_val; exact rfl; apply stp_pur; apply s_min2; exact rfl; exact rfl; ); (apply ol_as; exact rfl; exact rfl); (apply ol_nil))
      | (refine cw_region_id 6 ?_; (apply ol_mv; exact rfl; exact rfl); (apply ol_val; exact rfl; apply stp_pur; apply s_add64; exact rfl; exact rfl; omega); (apply ol_as; exact rfl; exact rfl); (apply ol_nil))
      | (refine cw_region_id 8 ?_; (apply ol_mv; exact rfl; exact rfl); (apply ol_as; exact rfl; exact rfl); (apply ol_nil))
      | (apply cw_cond_true; exact rfl; (first | exact rfl | assumption))
      | (apply cw_cond_false; exact rfl; (first | exact rfl | assumption))
      | apply cw_skip
      | apply cw_ret
      | apply cw_block
      | apply cw_exit
    refine ends [] (RVal.tmp rfl RVal.nil) Pick.nil ?_
    rfl
theorem max_spec {M : View} {w : World} (hM : View.le M (View.of w)) {p : List Int} (h0 : 0 < p.length) (hl : p.length ≤ 4611686018427387904) {n : Nat} (hn : p.length = n) {a : Option Addr} {b o c : Nat} (s : SlA M enc1 1 a p b o) :
    FnC Try.prog 38 [.slice a n c] w (fun v _ => v = .int .i64 (lmax p)) := by
  subst hn
  refine enterF (M := M) Try.func38 rfl rfl rfl rfl hM ?_
  have h1 : lmax (p.take 1) = p[0] := by rw [take1 h0]; rfl
  repeat' first
    | apply cw_seq
    | (refine cw_region_id 0 ?_; (apply ol_as; exact rfl; exact rfl); (apply ol_nil))
    | (refine cw_region_id 1 ?_; (apply ol_mv; exact rfl; exact rfl); (apply ol_val; exact rfl; apply stp_pur; apply s_len; exact rfl; exact el_22); (apply ol_val; exact rfl; apply stp_cmp; apply s_lss; exact rfl; exact rfl; all_goals (intro hc7; try (exfalso; (first | exact hc7 rfl | omega)))); all_goals (apply ol_nil))
    | (refine cw_region_id 2 ?_)
    | (refine cw_region_id 3 ?_; (apply ol_mv; exact rfl; exact rfl); (apply ol_val; exact rfl; apply stp_pur; first | (apply s_indexK; exact rfl; exact rfl; exact el_22; exact sz_3; (first | exact rfl | exact s.at_ (by omega)); omega) | (apply s_indexO; exact rfl; exact rfl; exact el_22; exact sz_3; (first | exact rfl | exact s.at_ (by omega)); omega)); (apply ol_ld; exact rfl; exact rfl; exact rfl; (first | (apply RdN.own; (focus ((repeat constructor); done)); (first | exact GetN.cons rfl GetN.nil | (apply getN_ints_app; (first | omega | (simp; omega) | (simp; done))) | (apply getN_ints; (first | omega | (simp; omega) | (simp; done))))) | (apply RdN.view; exact s.cells 0 h0))); (apply ol_as; exact rfl; exact rfl); (apply ol_nil))
    | (refine cw_region_id 4 ?_; (apply ol_as; exact rfl; exact rfl); (apply ol_nil))
    | (apply cw_cond_true; exact rfl; (first | exact rfl | assumption))
    | (apply cw_cond_false; exact rfl; (first | exact rfl | assumption))
    | apply cw_skip
    | apply cw_ret
    | apply cw_block
    | apply cw_exit
  refine cw_loopK (σ := Nat) [0] (by (repeat (first | exact Keep.nil | (apply Keep.cons; exact rfl)))) (fun k => [(3, .int .i64 (lmax (p.take k))), (4, .int .i64 k)]) (fun _ => M) (fun _ => []) (fun k => 0 < k ∧ k ≤ p.length) (fun k => p.length - k) 1 (by rw [h1]; (repeat (first | exact trivial | refine And.intro rfl ?_))) (View.le.refl _) (by (repeat (first | exact Pick.nil | (apply Pick.cons; (focus ((repeat (first | exact Spl.here | apply Spl.there)); done))) | exact Pick.refl))) ⟨by omega, by omega⟩ ?_
  intro k ⟨hk0, hk⟩
  by_cases hk' : k < p.length
  ·
    repeat' first
      | apply cw_seq
      | (refine cw_region_id 5 ?_; (apply ol_mv; exact rfl; exact rfl); (apply ol_mv; exact rfl; exact rfl); (apply ol_val; exact rfl; apply stp_pur; apply s_len; exact rfl; exact el_22); (apply ol_val; exact rfl; apply stp_cmp; apply s_lss; exact rfl; exact rfl; all_goals (intro hc15; try (exfalso; (first | exact hc15 rfl | omega)))); all_goals (apply ol_nil))
      | (refine cw_region_id 7 ?_; (apply ol_mv; exact rfl; exact rfl); (apply ol_mv; exact rfl; exact rfl); (apply ol_mv; exact rfl; exact rfl); (apply ol_val; exact rfl; apply stp_pur; first | (apply s_indexK; exact rfl; exact rfl; exact el_22; exact sz_3; (first | exact rfl | exact s.at_ (by omega)); omega) | (apply s_indexO; exact rfl; exact rfl; exact el_22; exact sz_3; (first | exact rfl | exact s.at_ (by omega)); omega)); (apply ol_ld; exact rfl; exact rfl; exact rfl; (first | (apply RdN.own; (focus ((repeat constructor); done)); (first | exact GetN.cons rfl GetN.nil | (apply getN_ints_app; (first | omega | (simp; omega) | (simp; done))) | (apply getN_ints; (first | omega | (simp; omega) | (simp; done))))) | (apply RdN.view; exact s.cells k hk'))); (apply ol_val; exact rfl; apply stp_pur; apply s_max2; exact rfl; exact rfl; ); (apply ol_as; exact rfl; exact rfl); (apply ol_nil))
      | (refine cw_region_id 6 ?_; (apply ol_mv; exact rfl; exact rfl); (apply ol_val; exact rfl; apply stp_pur; apply s_add64; exact rfl; exact rfl; omega); (apply ol_as; exact rfl; exact rfl); (apply ol_nil))
      | (refine cw_region_id 8 ?_; (apply ol_mv; exact rfl; exact rfl); (apply ol_as; exact rfl; exact rfl); (apply ol_nil))
      | (apply cw_cond_true; exact rfl; (first | exact rfl | assumption))
      | (apply cw_cond_false; exact rfl; (first | exact rfl | assumption))
      | apply cw_skip
      | apply cw_ret
      | apply cw_block
      | apply cw_exit
    refine ⟨k + 1, ⟨?_, View.le.refl _, by (repeat (first | exact Pick.nil | (apply Pick.cons; (focus ((repeat (first | exact Spl.here | apply Spl.there)); done))) | exact Pick.refl)), ⟨by omega, hk'⟩, by omega⟩⟩
    rw [lmax_step hk0 hk']
    (repeat (first | exact trivial | refine And.intro rfl ?_))
  · have : k = p.length := by omega
    subst this
    rw [List.take_length]
    repeat' first
      | apply cw_seq
      | (refine cw_region_id 5 ?_; (apply ol_mv; exact rfl; exact rfl); (apply ol_mv; exact rfl; exact rfl); (apply ol_val; exact rfl; apply stp_pur; apply s_len; exact rfl; exact el_22); (apply ol_val; exact rfl; apply stp_cmp; apply s_lss; exact rfl; exact rfl; all_goals (intro hc15; try (exfalso; (first | exact hc15 rfl | omega)))); all_goals (apply ol_nil))
      | (refine cw_region_id 7 ?_; (apply ol_mv; exact rfl; exact rfl); (apply ol_mv; exact rfl; exact rfl); (apply ol_mv; exact rfl; exact rfl); (apply ol_val; exact rfl; apply stp_pur; first | (apply s_indexK; exact rfl; exact rfl; exact el_22; exact sz_3; (first | exact rfl); omega) | (apply s_indexO; exact rfl; exact rfl; exact el_22; exact sz_3; (first | exact rfl); omega)); (apply ol_ld; exact rfl; exact rfl; exact rfl; (apply RdN.own; (focus ((repeat constructor); done)); (first | exact GetN.cons rfl GetN.nil | (apply getN_ints_app; (first | omega | (simp; omega) | (simp; done))) | (apply getN_ints; (first | omega | (simp; omega) | (simp; done)))))); (apply ol_val; exact rfl; apply stp_pur; apply s_max2; exact rfl; exact rfl; ); (apply ol_as; exact rfl; exact rfl); (apply ol_nil))
      | (refine cw_region_id 6 ?_; (apply ol_mv; exact rfl; exact rfl); (apply ol_val; exact rfl; apply stp_pur; apply s_add64; exact rfl; exact rfl; omega); (apply ol_as; exact rfl; exact rfl); (apply ol_nil))
      | (refine cw_region_id 8 ?_; (apply ol_mv; exact rfl; exact rfl); (apply ol_as; exact rfl; exact rfl); (apply ol_nil))
      | (apply cw_cond_true; exact rfl; (first | exact rfl | assumption))
      | (apply cw_cond_false; exact rfl; (first | exact rfl | assumption))
      | apply cw_skip
      | apply cw_ret
      | apply cw_block
      | apply cw_exit
    refine ends [] (RVal.tmp rfl RVal.nil) Pick.nil ?_
    rfl

theorem index_spec {M : View} {w : World} (hM : View.le M (View.of w)) {p : List Int} {x : Int} {i : Nat} (hl : p.length ≤ 4611686018427387904) (hi : i < p.length) (hx : p.getD i 0 = x) (hb : ∀ j, j < i → x ≠ p.getD j 0) {n : Nat} (hn : p.length = n) {a : Option Addr} {b o c : Nat} (s : SlA M enc1 1 a p b o) :
    FnC Try.prog 36 [.slice a n c, .int .i64 x] w (fun v _ => v = .int .i64 (i : Nat)) := by
  subst hn
  refine enterF (M := M) Try.func36 rfl rfl rfl rfl hM ?_
  repeat' first
    | apply cw_seq
    | (refine cw_region_id 0 ?_; (apply ol_as; exact rfl; exact rfl); (apply ol_nil))
    | (refine cw_region_id 1 ?_; (apply ol_mv; exact rfl; exact rfl); (apply ol_val; exact rfl; apply stp_pur; apply s_len; exact rfl; exact el_22); (apply ol_mv; exact rfl; exact rfl); (apply ol_nil))
    | (apply cw_cond_true; exact rfl; (first | exact rfl | assumption))
    | (apply cw_cond_false; exact rfl; (first | exact rfl | assumption))
    | apply cw_skip
    | apply cw_ret
    | apply cw_block
    | apply cw_exit
  refine cw_loopK (σ := Nat) [0, 1, 7] (by (repeat (first | exact Keep.nil | (apply Keep.cons; exact rfl)))) (fun k => [(8, .int .i64 k)]) (fun _ => M) (fun _ => []) (fun k => k ≤ i) (fun k => i - k) 0 (by (repeat (first | exact trivial | refine And.intro rfl ?_))) (View.le.refl _) (by (repeat (first | exact Pick.nil | (apply Pick.cons; (focus ((repeat (first | exact Spl.here | apply Spl.there)); done))) | exact Pick.refl))) (by omega) ?_
  intro k hk
  have hk' : k < p.length := by omega
  have hg := getD_in hk'
  by_cases hki : k = i
  · subst hki
    repeat' first
      | apply cw_seq
      | (refine cw_region_id 2 ?_; (apply ol_val; exact rfl; apply stp_cmp; apply s_lss; exact rfl; exact rfl; all_goals (intro hc9; try (exfalso; (first | exact hc9 rfl | omega)))); all_goals (apply ol_nil))
      | (refine cw_region_id 3 ?_; (apply ol_mv; exact rfl; exact rfl); (apply ol_as; exact rfl; exact rfl); (apply ol_nil))
      | (refine cw_region_id 4 ?_; (apply ol_mv; exact rfl; exact rfl); (apply ol_mv; exact rfl; exact rfl); (apply ol_mv; exact rfl; exact rfl); (apply ol_val; exact rfl; apply stp_pur; first | (apply s_indexK; exact rfl; exact rfl; exact el_22; exact sz_3; (first | exact rfl | exact s.at_ (by omega)); omega) | (apply s_indexO; exact rfl; exact rfl; exact el_22; exact sz_3; (first | exact rfl | exact s.at_ (by omega)); omega)); (apply ol_ld; exact rfl; exact rfl; exact rfl; (first | (apply RdN.own; (focus ((repeat constructor); done)); (first | exact GetN.cons rfl GetN.nil | (apply getN_ints_app; (first | omega | (simp; omega) | (simp; done))) | (apply getN_ints; (first | omega | (simp; omega) | (simp; done))))) | (apply RdN.view; exact s.cells k hk'))); (apply ol_val; exact rfl; apply stp_cmp; apply s_eql; exact rfl; exact rfl; all_goals (intro hc16; try (exfalso; (first | exact hc16 rfl | omega)))); all_goals (apply ol_nil))
      | (refine cw_region_id 5 ?_; (apply ol_mv; exact rfl; exact rfl); (apply ol_as; exact rfl; exact rfl); (apply ol_nil))
      | (refine cw_region_id 6 ?_; (apply ol_val; exact rfl; apply stp_pur; apply s_add64; exact rfl; exact rfl; omega); (apply ol_mv; exact rfl; exact rfl); (apply ol_nil))
      | (refine cw_region_id 7 ?_; (apply ol_as; exact rfl; exact rfl); (apply ol_nil))
      | (apply cw_cond_true; exact rfl; (first | exact rfl | assumption))
      | (apply cw_cond_false; exact rfl; (first | exact rfl | assumption))
      | apply cw_skip
      | apply cw_ret
      | apply cw_block
      | apply cw_exit
    refine ends [] (RVal.tmp rfl RVal.nil) Pick.nil ?_
    rfl
  · have hne := hb k (by omega)
    repeat' first
      | apply cw_seq
      | (refine cw_region_id 2 ?_; (apply ol_val; exact rfl; apply stp_cmp; apply s_lss; exact rfl; exact rfl; all_goals (intro hc9; try (exfalso; (first | exact hc9 rfl | omega)))); all_goals (apply ol_nil))
      | (refine cw_region_id 3 ?_; (apply ol_mv; exact rfl; exact rfl); (apply ol_as; exact rfl; exact rfl); (apply ol_nil))
      | (refine cw_region_id 4 ?_; (apply ol_mv; exact rfl; exact rfl); (apply ol_mv; exact rfl; exact rfl); (apply ol_mv; exact rfl; exact rfl); (apply ol_val; exact rfl; apply stp_pur; first | (apply s_indexK; exact rfl; exact rfl; exact el_22; exact sz_3; (first | exact rfl | exact s.at_ (by omega)); omega) | (apply s_indexO; exact rfl; exact rfl; exact el_22; exact sz_3; (first | exact rfl | exact s.at_ (by omega)); omega)); (apply ol_ld; exact rfl; exact rfl; exact rfl; (first | (apply RdN.own; (focus ((repeat constructor); done)); (first | exact GetN.cons rfl GetN.nil | (apply getN_ints_app; (first | omega | (simp; omega) | (simp; done))) | (apply getN_ints; (first | omega | (simp; omega) | (simp; done))))) | (apply RdN.view; exact s.cells k hk'))); (apply ol_val; exact rfl; apply stp_cmp; apply s_eql; exact rfl; exact rfl; all_goals (intro hc16; try (exfalso; (first | exact hc16 rfl | omega)))); all_goals (apply ol_nil))
      | (refine cw_region_id 5 ?_; (apply ol_mv; exact rfl; exact rfl); (apply ol_as; exact rfl; exact rfl); (apply ol_nil))
      | (refine cw_region_id 6 ?_; (apply ol_val; exact rfl; apply stp_pur; apply s_add64; exact rfl; exact rfl; omega); (apply ol_mv; exact rfl; exact rfl); (apply ol_nil))
      | (refine cw_region_id 7 ?_; (apply ol_as; exact rfl; exact rfl); (apply ol_nil))
      | (apply cw_cond_true; exact rfl; (first | exact rfl | assumption))
      | (apply cw_cond_false; exact rfl; (first | exact rfl | assumption))
      | apply cw_skip
      | apply cw_ret
      | apply cw_block
      | apply cw_exit
    exact ⟨k + 1, ⟨by (repeat (first | exact trivial | refine And.intro rfl ?_)), View.le.refl _, by (repeat (first | exact Pick.nil | (apply Pick.cons; (focus ((repeat (first | exact Spl.here | apply Spl.there)); done))) | exact Pick.refl)), by omega, by omega⟩⟩

structure TS where
  p : List Int
  f : Nat
  out : List C3
  r : Option Nat
  A : Option Addr
  c : Nat
  sp : List Value

theorem app_step {p : List Int} (a2 : p.getD (amin p) 0 = lmin p) (b2 : p.getD (amax p) 0 = lmax p) :
    (p.set (amin p) (p.getD (amin p) 0 + min (-p.getD (amin p) 0) (p.getD (amax p) 0))).set (amax p) ((p.set (amin p) (p.getD (amin p) 0 + min (-p.getD (amin p) 0) (p.getD (amax p) 0))).getD (amax p) 0 - min (-p.getD (amin p) 0) (p.getD (amax p) 0)) = app p (stepC p) := by
  unfold app stepC
  dsimp only
  rw [Int.toNat_natCast, Int.toNat_natCast, ← a2, ← b2]
theorem enc_step {p : List Int} (a2 : p.getD (amin p) 0 = lmin p) (b2 : p.getD (amax p) 0 = lmax p) :
    [Value.int .i64 (amin p : Nat), .int .i64 (amax p : Nat), .int .i64 (min (-p.getD (amin p) 0) (p.getD (amax p) 0))] = C3.enc (stepC p) := by
  unfold stepC C3.enc
  dsimp only
  rw [a2, b2]

theorem transfers_spec {M : View} {w : World} (hM : View.le M (View.of w)) {p0 : List Int} {n : Nat} (hn : p0.length = n) {xs : List C3} {e : Int} (hr : (if posB p0 = true then (settle p0, (0 : Int)) else ([], 1)) = (xs, e)) {a : Option Addr} {b o c : Nat} (s : SlA M enc1 1 a p0 b o) (hl : p0.length ≤ 4611686018427387904) :
    FnC Try.prog 9 [.slice a n c] w (Row2 C3.enc 3 33 xs (.int .i64 e)) := by
  subst hn
  refine enterF (M := M) Try.func9 rfl rfl rfl rfl hM ?_
  refine cw_none 33 ?_
  refine cw_none 3 ?_
  cases hv : posB p0 with
  | false =>
    rw [hv] at hr
    obtain ⟨rfl, rfl⟩ := Prod.mk.inj hr
    repeat' first
      | apply cw_seq
      | (refine cw_region_id 0 ?_; (apply ol_as; exact rfl; exact rfl); (apply ol_as; exact rfl; exact rfl); (apply ol_nil))
      | (refine cw_region_id 1 ?_; (apply ol_mv; exact rfl; exact rfl); (apply ol_val; exact rfl; apply s_callv; exact rfl; exact gf_34; (intro w' hw'; exact valid_spec (View.le.refl (View.of w')) rfl hv (s.mono hw'.le) hl)); (apply ol_val; exact rfl; apply stp_pur; first | (apply s_not_t; exact rfl; (first | exact rfl | assumption)) | (apply s_not_f; exact rfl; (first | exact rfl | assumption)) | (apply s_not; exact rfl)); (apply ol_nil))
      | (refine cw_region_id 2 ?_; (apply ol_as; exact rfl; exact rfl); (apply ol_as; exact rfl; exact rfl); (apply ol_nil))
      | (refine cw_region_id 3 ?_; (apply ol_mv; exact rfl; exact rfl))
      | (refine cw_region_id 4 ?_; (apply ol_as; exact rfl; exact rfl); (apply ol_nil))
      | (apply cw_cond_true; exact rfl; (first | exact rfl | assumption))
      | (apply cw_cond_false; exact rfl; (first | exact rfl | assumption))
      | apply cw_skip
      | apply cw_ret
      | apply cw_block
      | apply cw_exit
    refine ends [⟨none, [], 33⟩] (RVal.tmp rfl (RVal.tmp rfl RVal.nil)) (by (repeat (first | exact Pick.nil | (apply Pick.cons; (focus ((repeat (first | exact Spl.here | apply Spl.there)); done))) | exact Pick.refl))) ?_
    exact Row2.zero _ _ _ _
  | true =>
    rw [hv, if_pos rfl] at hr
    obtain ⟨rfl, rfl⟩ := Prod.mk.inj hr
    obtain ⟨g1, g2, g3, g4⟩ := posB_spec hv
    repeat' first
      | apply cw_seq
      | (refine cw_region_id 0 ?_; (apply ol_as; exact rfl; exact rfl); (apply ol_as; exact rfl; exact rfl); (apply ol_nil))
      | (refine cw_region_id 1 ?_; (apply ol_mv; exact rfl; exact rfl); (apply ol_val; exact rfl; apply s_callv; exact rfl; exact gf_34; (intro w' hw'; exact valid_spec (View.le.refl (View.of w')) rfl hv (s.mono hw'.le) hl)); (apply ol_val; exact rfl; apply stp_pur; first | (apply s_not_t; exact rfl; (first | exact rfl | assumption)) | (apply s_not_f; exact rfl; (first | exact rfl | assumption)) | (apply s_not; exact rfl)); (apply ol_nil))
      | (refine cw_region_id 2 ?_; (apply ol_as; exact rfl; exact rfl); (apply ol_as; exact rfl; exact rfl); (apply ol_nil))
      | (refine cw_region_id 3 ?_; (apply ol_mv; exact rfl; exact rfl); (apply ol_val; exact rfl; apply s_call; exact rfl; exact gf_35; (intro w' hw'; exact cloneInts_spec (View.le.refl (View.of w')) rfl (s.mono hw'.le) (by omega)); ((intro v new h; obtain ⟨r4, A4, c4, sp4, rfl, rfl, so4⟩ := h; rcases r4 with _ | b4; (exfalso; have := so4.empty rfl; omega)))); all_goals (apply ol_as; exact rfl; exact rfl); all_goals (apply ol_nil))
      | (refine cw_region_id 4 ?_; (apply ol_as; exact rfl; exact rfl); (apply ol_nil))
      | (apply cw_cond_true; exact rfl; (first | exact rfl | assumption))
      | (apply cw_cond_false; exact rfl; (first | exact rfl | assumption))
      | apply cw_skip
      | apply cw_ret
      | apply cw_block
      | apply cw_exit
    rw [flat_enc1] at so4 ⊢
    refine cw_loopK (σ := TS) [4] (by (repeat (first | exact Keep.nil | (apply Keep.cons; exact rfl)))) (fun s => [(5, .slice (base s.r s.A) s.out.length s.c)]) (fun _ => M) (fun s => [⟨some b4, ints s.p ++ sp4, 3⟩, ⟨s.r, flat C3.enc s.out ++ s.sp, 33⟩])
      (fun s => posB s.p = true ∧ s.p.length = p0.length ∧ s.out.length + s.f = 8 ∧ nz s.p ≤ s.f ∧ settle p0 = s.out ++ greedy s.f s.p ∧ SO s.r s.out.length s.c (flat C3.enc s.out) s.sp 3) (fun s => s.f) ⟨p0, 8, [], none, none, 0, []⟩ (by (repeat (first | exact trivial | refine And.intro rfl ?_))) (View.le.refl _) (by (repeat (first | exact Pick.nil | (apply Pick.cons; (focus ((repeat (first | exact Spl.here | apply Spl.there)); done))) | exact Pick.refl))) ⟨hv, rfl, rfl, by have := nz_le p0; dsimp only; omega, rfl, SO.nil 3⟩ ?_
    rintro ⟨p, f, out, r, A, c1, sp⟩ ⟨h1, h2, h3, h4, h5, so⟩
    dsimp only at h1 h2 h3 h4 h5 so
    dsimp only
    obtain ⟨q1, q2, q3, q4⟩ := posB_spec h1
    obtain ⟨a1, a2, a3⟩ := amin_spec (p := p) (by omega)
    obtain ⟨b1, b2, b3⟩ := amax_spec (p := p) (by omega)
    have ba := q4 _ (getD_mem a1)
    have bb := q4 _ (getD_mem b1)
    rw [← h2]
    have sown : ∀ (w' : World), OB.ok ⟨some b4, ints p ++ sp4, 3⟩ w' → SlA (View.of w') enc1 1 (base (some b4) A4) p b4 0 := fun w' h => SlA.ownInts (r := some b4) h (fun h => by cases h)
    by_cases hz : lmin p = 0
    · rw [greedy_zero hz, List.append_nil] at h5
      repeat' first
        | apply cw_seq
        | (refine cw_region_id 5 ?_; (apply ol_mv; exact rfl; exact rfl); (apply ol_mv; exact rfl; exact rfl); (apply ol_val; exact rfl; apply s_callv; exact rfl; exact gf_37; (intro w' hw'; exact min_spec (View.le.refl (View.of w')) (p := p) (by omega) (by omega) rfl (sown _ (hw'.ok_ (by (repeat (first | exact Has.here | apply Has.there))))))); (apply ol_val; exact rfl; apply s_callv; exact rfl; exact gf_36; (intro w' hw'; first | exact index_spec (View.le.refl (View.of w')) (p := p) (by omega) a1 a2 a3 rfl (sown _ (hw'.ok_ (by (repeat (first | exact Has.here | apply Has.there))))) | exact index_spec (View.le.refl (View.of w')) (p := p) (by omega) b1 b2 b3 rfl (sown _ (hw'.ok_ (by (repeat (first | exact Has.here | apply Has.there))))))); (apply ol_as; exact rfl; exact rfl); (apply ol_nil))
        | (refine cw_region_id 6 ?_; (apply ol_mv; exact rfl; exact rfl); (apply ol_mv; exact rfl; exact rfl); (apply ol_val; exact rfl; apply s_callv; exact rfl; exact gf_38; (intro w' hw'; exact max_spec (View.le.refl (View.of w')) (p := p) (by omega) (by omega) rfl (sown _ (hw'.ok_ (by (repeat (first | exact Has.here | apply Has.there))))))); (apply ol_val; exact rfl; apply s_callv; exact rfl; exact gf_36; (intro w' hw'; first | exact index_spec (View.le.refl (View.of w')) (p := p) (by omega) a1 a2 a3 rfl (sown _ (hw'.ok_ (by (repeat (first | exact Has.here | apply Has.there))))) | exact index_spec (View.le.refl (View.of w')) (p := p) (by omega) b1 b2 b3 rfl (sown _ (hw'.ok_ (by (repeat (first | exact Has.here | apply Has.there))))))); (apply ol_as; exact rfl; exact rfl); (apply ol_nil))
        | (refine cw_region_id 7 ?_; (apply ol_mv; exact rfl; exact rfl); (apply ol_mv; exact rfl; exact rfl); (apply ol_val; exact rfl; apply stp_pur; first | (apply s_indexK; exact rfl; exact rfl; exact el_22; exact sz_3; (first | exact rfl); omega) | (apply s_indexO; exact rfl; exact rfl; exact el_22; exact sz_3; (first | exact rfl); omega)); (apply ol_ld; exact rfl; exact rfl; exact rfl; (apply RdN.own; (focus ((repeat constructor); done)); (first | exact GetN.cons rfl GetN.nil | (apply getN_ints_app; (first | omega | (simp; omega) | (simp; done))) | (apply getN_ints; (first | omega | (simp; omega) | (simp; done)))))); (apply ol_val; exact rfl; apply stp_cmp; apply s_eql; exact rfl; exact rfl; all_goals (intro hc26; try (exfalso; (first | exact hc26 rfl | omega)))); all_goals (apply ol_nil))
        | (refine cw_region_id 8 ?_; (apply ol_mv; exact rfl; exact rfl); (apply ol_as; exact rfl; exact rfl); (apply ol_as; exact rfl; exact rfl); (apply ol_nil))
        | (refine cw_draw (id := 9) 11 (.mv 0 (.mv 1 (.mv 2 (.mv 3 (.mv 4 (.mv 5 (.mv 6 (.mv 7 (.mv 8 (.mv 9 (.mv 10 (PT.nil)))))))))))) mixed (by kernel_rfl) ?_; (apply od_mv; exact rfl; exact rfl; apply s_move; exact rfl); (apply od_mv; exact rfl; exact rfl; apply s_move; exact rfl); (apply od_mv; exact rfl; exact rfl; first | (apply s_indexK; exact rfl; exact rfl; exact el_22; exact sz_3; (first | exact rfl); omega) | (apply s_indexO; exact rfl; exact rfl; exact el_22; exact sz_3; (first | exact rfl); omega)); (apply od_mv; exact rfl; exact rfl; apply s_load1; exact rfl; exact rfl; (apply RdN.own; (focus ((repeat constructor); done)); (first | exact GetN.cons rfl GetN.nil | (apply getN_ints_app; (first | omega | (simp; omega) | (simp; done))) | (apply getN_ints; (first | omega | (simp; omega) | (simp; done)))))); (apply od_mv; exact rfl; exact rfl; apply s_neg64; exact rfl; omega); (apply od_mv; exact rfl; exact rfl; apply s_move; exact rfl); (apply od_mv; exact rfl; exact rfl; apply s_move; exact rfl); (apply od_mv; exact rfl; exact rfl; first | (apply s_indexK; exact rfl; exact rfl; exact el_22; exact sz_3; (first | exact rfl); omega) | (apply s_indexO; exact rfl; exact rfl; exact el_22; exact sz_3; (first | exact rfl); omega)); (apply od_mv; exact rfl; exact rfl; apply s_load1; exact rfl; exact rfl; (apply RdN.own; (focus ((repeat constructor); done)); (first | exact GetN.cons rfl GetN.nil | (apply getN_ints_app; (first | omega | (simp; omega) | (simp; done))) | (apply getN_ints; (first | omega | (simp; omega) | (simp; done)))))); (apply od_mv; exact rfl; exact rfl; apply s_min2; exact rfl; exact rfl; ); (apply od_mv; exact rfl; exact rfl; apply s_assign; exact rfl); (apply od_nil; (first | exact Wk.refl _ _ | (focus (apply Wk.mk; exact View.le.refl _; (repeat constructor); done)))); (apply ol_nil))
        | (refine cw_region_id 10 ?_; (apply ol_mv; exact rfl; exact rfl); (apply ol_mv; exact rfl; exact rfl); (apply ol_val; exact rfl; apply stp_pur; first | (apply s_indexK; exact rfl; exact rfl; exact el_22; exact sz_3; (first | exact rfl); omega) | (apply s_indexO; exact rfl; exact rfl; exact el_22; exact sz_3; (first | exact rfl); omega)); (apply ol_ld; exact rfl; exact rfl; exact rfl; (apply RdN.own; (focus ((repeat constructor); done)); (first | exact GetN.cons rfl GetN.nil | (apply getN_ints_app; (first | omega | (simp; omega) | (simp; done))) | (apply getN_ints; (first | omega | (simp; omega) | (simp; done)))))); (apply ol_mv; exact rfl; exact rfl); (apply ol_val; exact rfl; apply stp_pur; apply s_add64; exact rfl; exact rfl; omega); (apply ol_val; exact rfl; apply stp_pur; first | (apply s_indexK; exact rfl; exact rfl; exact el_22; exact sz_3; (first | exact rfl); omega) | (apply s_indexO; exact rfl; exact rfl; exact el_22; exact sz_3; (first | exact rfl); omega)); (apply ol_eff; apply s_store1; exact rfl; exact rfl; exact sz_3; exact rfl; (focus ((repeat constructor); done)); (first | (focus ((repeat constructor); done)) | (apply setAt_ints_app; (first | omega | (simp; omega) | (simp; done))) | (apply setAt_ints; (first | omega | (simp; omega) | (simp; done))) | (apply SetAt.set; (first | omega | (simp; omega) | (simp; done))))); (apply ol_nil))
        | (refine cw_region_id 11 ?_; (apply ol_mv; exact rfl; exact rfl); (apply ol_mv; exact rfl; exact rfl); (apply ol_val; exact rfl; apply stp_pur; first | (apply s_indexK; exact rfl; exact rfl; exact el_22; exact sz_3; (first | exact rfl); omega) | (apply s_indexO; exact rfl; exact rfl; exact el_22; exact sz_3; (first | exact rfl); omega)); (apply ol_ld; exact rfl; exact rfl; exact rfl; (apply RdN.own; (focus ((repeat constructor); done)); (first | exact GetN.cons rfl GetN.nil | (apply getN_ints_app; (first | omega | (simp; omega) | (simp; done))) | (apply getN_ints; (first | omega | (simp; omega) | (simp; done)))))); (apply ol_mv; exact rfl; exact rfl); (apply ol_val; exact rfl; apply stp_pur; apply s_sub64; exact rfl; exact rfl; omega); (apply ol_val; exact rfl; apply stp_pur; first | (apply s_indexK; exact rfl; exact rfl; exact el_22; exact sz_3; (first | exact rfl); omega) | (apply s_indexO; exact rfl; exact rfl; exact el_22; exact sz_3; (first | exact rfl); omega)); (apply ol_eff; apply s_store1; exact rfl; exact rfl; exact sz_3; exact rfl; (focus ((repeat constructor); done)); (first | (focus ((repeat constructor); done)) | (apply setAt_ints_app; (first | omega | (simp; omega) | (simp; done))) | (apply setAt_ints; (first | omega | (simp; omega) | (simp; done))) | (apply SetAt.set; (first | omega | (simp; omega) | (simp; done))))); (apply ol_nil))
        | (refine cw_region_id 12 ?_; (apply ol_mv; exact rfl; exact rfl); (apply ol_mv; exact rfl; exact rfl); (apply ol_mv; exact rfl; exact rfl); (apply ol_mv; exact rfl; exact rfl); (apply ol_val; exact rfl; apply stp_pur; apply s_buildS; exact rfl; exact fs_33; exact zb_33; (focus ((repeat (first | exact rfl | constructor)); done))); (apply ol_val; exact rfl; apply s_buildSl; exact rfl; exact el_23; exact sz_33; exact zb_33; (focus ((repeat constructor); done)); exact rfl; exact rfl; (exact Nat.le_of_ble_eq_true rfl); (focus ((repeat constructor); done)); (focus ((repeat (first | exact Fil.nil | (apply Fil.one; exact rfl; exact rfl; (repeat (first | exact SetAt.zero | apply SetAt.succ))) | (apply Fil.agg; exact rfl; exact rfl; (repeat (first | exact SetN.nil | (apply SetN.cons; (repeat (first | exact SetAt.zero | apply SetAt.succ))))); (exact Nat.le_of_ble_eq_true rfl)))); done)); intro bk57); (apply ol_val; exact rfl; first | (apply s_append_e; exact rfl; exact rfl; (focus ((repeat constructor); done)); exact el_23; exact sz_33; exact zb_33; exact rfl; exact by_33; (first | exact (fun _ => rfl)); (first | (apply RdN.own; (focus ((repeat constructor); done)); (focus ((repeat (first | exact rfl | constructor)); done)))); (first | exact rfl); (first | omega | (simp; omega) | (simp; done)); (first | omega | (simp; omega) | (simp; done)); intro rk58 sk58 ck58 ok58) | (apply s_append_r; exact rfl; exact rfl; (focus ((repeat constructor); done)); (first | exact rfl | exact (List.append_nil _).symm); exact el_23; exact sz_33; exact zb_33; exact rfl; exact by_33; (first | exact SO.nil _ | assumption | (exact ⟨by simp, by simp, Nat.le_refl _, by simp⟩)); (first | exact (fun _ => rfl)); (first | (apply RdN.own; (focus ((repeat constructor); done)); (focus ((repeat (first | exact rfl | constructor)); done)))); (first | exact rfl); (first | omega | (simp; omega) | (simp; done)); (first | omega | (simp; omega) | (simp; done)); intro rk58 sk58 ck58 ok58) | (apply s_append_b; exact rfl; exact rfl; (focus ((repeat constructor); done)); (first | exact rfl | exact (List.append_nil _).symm); exact el_23; exact sz_33; exact zb_33; exact rfl; exact by_33; (first | exact SO.nil _ | assumption | (exact ⟨by simp, by simp, Nat.le_refl _, by simp⟩)); (first | exact (fun _ => rfl)); (first | (apply RdN.own; (focus ((repeat constructor); done)); (focus ((repeat (first | exact rfl | constructor)); done)))); (first | exact rfl); (first | omega | (simp; omega) | (simp; done)); (first | omega | (simp; omega) | (simp; done)); intro rk58 sk58 ck58 ok58) | (apply s_append_n; exact rfl; exact rfl; (focus ((repeat constructor); done)); exact el_23; exact sz_33; exact zb_33; exact rfl; exact by_33; (first | exact (fun _ => rfl)); (first | (apply RdN.own; (focus ((repeat constructor); done)); (focus ((repeat (first | exact rfl | constructor)); done)))); (first | exact rfl); (first | omega | (simp; omega) | (simp; done)); (first | omega | (simp; omega) | (simp; done)); intro rk58 sk58 ck58 ok58)); (apply ol_as; exact rfl; exact rfl); (apply ol_nil))
        | (apply cw_cond_true; exact rfl; (first | exact rfl | assumption))
        | (apply cw_cond_false; exact rfl; (first | exact rfl | assumption))
        | apply cw_skip
        | apply cw_ret
        | apply cw_block
        | apply cw_exit
      refine ends [⟨r, flat C3.enc out ++ sp, 33⟩] (RVal.tmp rfl (RVal.tmp rfl RVal.nil)) (by (repeat (first | exact Pick.nil | (apply Pick.cons; (focus ((repeat (first | exact Spl.here | apply Spl.there)); done))) | exact Pick.refl))) ?_
      rw [h5]
      exact ⟨r, A, c1, sp, rfl, rfl, so⟩
    · have hnz : nz p ≠ 0 := fun h => hz (nz_zero h1 h)
      obtain ⟨f, rfl⟩ : ∃ f', f = f' + 1 := ⟨f - 1, by omega⟩
      have hst := nz_step h1 hz
      have hpos := app_posB h1 hz
      have hne := step_ne h1 hz
      obtain ⟨l1, l2⟩ := low_high h1 hz
      have q5 : (p.set (amin p) (p.getD (amin p) 0 + min (-p.getD (amin p) 0) (p.getD (amax p) 0))).getD (amax p) 0 = p.getD (amax p) 0 := by rw [getD_set, if_neg (fun h => hne h.1)]
      rw [greedy_step hz] at h5
      have e1 := app_step a2 b2
      have e2 := enc_step a2 b2
      repeat' first
        | apply cw_seq
        | (refine cw_region_id 5 ?_; (apply ol_mv; exact rfl; exact rfl); (apply ol_mv; exact rfl; exact rfl); (apply ol_val; exact rfl; apply s_callv; exact rfl; exact gf_37; (intro w' hw'; exact min_spec (View.le.refl (View.of w')) (p := p) (by omega) (by omega) rfl (sown _ (hw'.ok_ (by (repeat (first | exact Has.here | apply Has.there))))))); (apply ol_val; exact rfl; apply s_callv; exact rfl; exact gf_36; (intro w' hw'; first | exact index_spec (View.le.refl (View.of w')) (p := p) (by omega) a1 a2 a3 rfl (sown _ (hw'.ok_ (by (repeat (first | exact Has.here | apply Has.there))))) | exact index_spec (View.le.refl (View.of w')) (p := p) (by omega) b1 b2 b3 rfl (sown _ (hw'.ok_ (by (repeat (first | exact Has.here | apply Has.there))))))); (apply ol_as; exact rfl; exact rfl); (apply ol_nil))
        | (refine cw_region_id 6 ?_; (apply ol_mv; exact rfl; exact rfl); (apply ol_mv; exact rfl; exact rfl); (apply ol_val; exact rfl; apply s_callv; exact rfl; exact gf_38; (intro w' hw'; exact max_spec (View.le.refl (View.of w')) (p := p) (by omega) (by omega) rfl (sown _ (hw'.ok_ (by (repeat (first | exact Has.here | apply Has.there))))))); (apply ol_val; exact rfl; apply s_callv; exact rfl; exact gf_36; (intro w' hw'; first | exact index_spec (View.le.refl (View.of w')) (p := p) (by omega) a1 a2 a3 rfl (sown _ (hw'.ok_ (by (repeat (first | exact Has.here | apply Has.there))))) | exact index_spec (View.le.refl (View.of w')) (p := p) (by omega) b1 b2 b3 rfl (sown _ (hw'.ok_ (by (repeat (first | exact Has.here | apply Has.there))))))); (apply ol_as; exact rfl; exact rfl); (apply ol_nil))
        | (refine cw_region_id 7 ?_; (apply ol_mv; exact rfl; exact rfl); (apply ol_mv; exact rfl; exact rfl); (apply ol_val; exact rfl; apply stp_pur; first | (apply s_indexK; exact rfl; exact rfl; exact el_22; exact sz_3; (first | exact rfl); omega) | (apply s_indexO; exact rfl; exact rfl; exact el_22; exact sz_3; (first | exact rfl); omega)); (apply ol_ld; exact rfl; exact rfl; exact rfl; (apply RdN.own; (focus ((repeat constructor); done)); (first | exact GetN.cons rfl GetN.nil | (apply getN_ints_app; (first | omega | (simp; omega) | (simp; done))) | (apply getN_ints; (first | omega | (simp; omega) | (simp; done)))))); (apply ol_val; exact rfl; apply stp_cmp; apply s_eql; exact rfl; exact rfl; all_goals (intro hc26; try (exfalso; (first | exact hc26 rfl | omega)))); all_goals (apply ol_nil))
        | (refine cw_region_id 8 ?_; (apply ol_mv; exact rfl; exact rfl); (apply ol_as; exact rfl; exact rfl); (apply ol_as; exact rfl; exact rfl); (apply ol_nil))
        | (refine cw_draw (id := 9) 11 (.mv 0 (.mv 1 (.mv 2 (.mv 3 (.mv 4 (.mv 5 (.mv 6 (.mv 7 (.mv 8 (.mv 9 (.mv 10 (PT.nil)))))))))))) mixed (by kernel_rfl) ?_; (apply od_mv; exact rfl; exact rfl; apply s_move; exact rfl); (apply od_mv; exact rfl; exact rfl; apply s_move; exact rfl); (apply od_mv; exact rfl; exact rfl; first | (apply s_indexK; exact rfl; exact rfl; exact el_22; exact sz_3; (first | exact rfl); omega) | (apply s_indexO; exact rfl; exact rfl; exact el_22; exact sz_3; (first | exact rfl); omega)); (apply od_mv; exact rfl; exact rfl; apply s_load1; exact rfl; exact rfl; (apply RdN.own; (focus ((repeat constructor); done)); (first | exact GetN.cons rfl GetN.nil | (apply getN_ints_app; (first | omega | (simp; omega) | (simp; done))) | (apply getN_ints; (first | omega | (simp; omega) | (simp; done)))))); (apply od_mv; exact rfl; exact rfl; apply s_neg64; exact rfl; omega); (apply od_mv; exact rfl; exact rfl; apply s_move; exact rfl); (apply od_mv; exact rfl; exact rfl; apply s_move; exact rfl); (apply od_mv; exact rfl; exact rfl; first | (apply s_indexK; exact rfl; exact rfl; exact el_22; exact sz_3; (first | exact rfl); omega) | (apply s_indexO; exact rfl; exact rfl; exact el_22; exact sz_3; (first | exact rfl); omega)); (apply od_mv; exact rfl; exact rfl; apply s_load1; exact rfl; exact rfl; (apply RdN.own; (focus ((repeat constructor); done)); (first | exact GetN.cons rfl GetN.nil | (apply getN_ints_app; (first | omega | (simp; omega) | (simp; done))) | (apply getN_ints; (first | omega | (simp; omega) | (simp; done)))))); (apply od_mv; exact rfl; exact rfl; apply s_min2; exact rfl; exact rfl; ); (apply od_mv; exact rfl; exact rfl; apply s_assign; exact rfl); (apply od_nil; (first | exact Wk.refl _ _ | (focus (apply Wk.mk; exact View.le.refl _; (repeat constructor); done)))); (apply ol_nil))
        | (refine cw_region_id 10 ?_; (apply ol_mv; exact rfl; exact rfl); (apply ol_mv; exact rfl; exact rfl); (apply ol_val; exact rfl; apply stp_pur; first | (apply s_indexK; exact rfl; exact rfl; exact el_22; exact sz_3; (first | exact rfl); omega) | (apply s_indexO; exact rfl; exact rfl; exact el_22; exact sz_3; (first | exact rfl); omega)); (apply ol_ld; exact rfl; exact rfl; exact rfl; (apply RdN.own; (focus ((repeat constructor); done)); (first | exact GetN.cons rfl GetN.nil | (apply getN_ints_app; (first | omega | (simp; omega) | (simp; done))) | (apply getN_ints; (first | omega | (simp; omega) | (simp; done)))))); (apply ol_mv; exact rfl; exact rfl); (apply ol_val; exact rfl; apply stp_pur; apply s_add64; exact rfl; exact rfl; omega); (apply ol_val; exact rfl; apply stp_pur; first | (apply s_indexK; exact rfl; exact rfl; exact el_22; exact sz_3; (first | exact rfl); omega) | (apply s_indexO; exact rfl; exact rfl; exact el_22; exact sz_3; (first | exact rfl); omega)); (apply ol_eff; apply s_store1; exact rfl; exact rfl; exact sz_3; exact rfl; (focus ((repeat constructor); done)); (first | (focus ((repeat constructor); done)) | (apply setAt_ints_app; (first | omega | (simp; omega) | (simp; done))) | (apply setAt_ints; (first | omega | (simp; omega) | (simp; done))) | (apply SetAt.set; (first | omega | (simp; omega) | (simp; done))))); (apply ol_nil))
        | (refine cw_region_id 11 ?_; (apply ol_mv; exact rfl; exact rfl); (apply ol_mv; exact rfl; exact rfl); (apply ol_val; exact rfl; apply stp_pur; first | (apply s_indexK; exact rfl; exact rfl; exact el_22; exact sz_3; (first | exact rfl); omega) | (apply s_indexO; exact rfl; exact rfl; exact el_22; exact sz_3; (first | exact rfl); omega)); (apply ol_ld; exact rfl; exact rfl; exact rfl; (apply RdN.own; (focus ((repeat constructor); done)); (first | exact GetN.cons rfl GetN.nil | (apply getN_ints_app; (first | omega | (simp; omega) | (simp; done))) | (apply getN_ints; (first | omega | (simp; omega) | (simp; done)))))); (apply ol_mv; exact rfl; exact rfl); (apply ol_val; exact rfl; apply stp_pur; apply s_sub64; exact rfl; exact rfl; omega); (apply ol_val; exact rfl; apply stp_pur; first | (apply s_indexK; exact rfl; exact rfl; exact el_22; exact sz_3; (first | exact rfl); omega) | (apply s_indexO; exact rfl; exact rfl; exact el_22; exact sz_3; (first | exact rfl); omega)); (apply ol_eff; apply s_store1; exact rfl; exact rfl; exact sz_3; exact rfl; (focus ((repeat constructor); done)); (first | (focus ((repeat constructor); done)) | (apply setAt_ints_app; (first | omega | (simp; omega) | (simp; done))) | (apply setAt_ints; (first | omega | (simp; omega) | (simp; done))) | (apply SetAt.set; (first | omega | (simp; omega) | (simp; done))))); (apply ol_nil))
        | (refine cw_region_id 12 ?_; (apply ol_mv; exact rfl; exact rfl); (apply ol_mv; exact rfl; exact rfl); (apply ol_mv; exact rfl; exact rfl); (apply ol_mv; exact rfl; exact rfl); (apply ol_val; exact rfl; apply stp_pur; apply s_buildS; exact rfl; exact fs_33; exact zb_33; (focus ((repeat (first | exact rfl | constructor)); done))); (apply ol_val; exact rfl; apply s_buildSl; exact rfl; exact el_23; exact sz_33; exact zb_33; (focus ((repeat constructor); done)); exact rfl; exact rfl; (exact Nat.le_of_ble_eq_true rfl); (focus ((repeat constructor); done)); (focus ((repeat (first | exact Fil.nil | (apply Fil.one; exact rfl; exact rfl; (repeat (first | exact SetAt.zero | apply SetAt.succ))) | (apply Fil.agg; exact rfl; exact rfl; (repeat (first | exact SetN.nil | (apply SetN.cons; (repeat (first | exact SetAt.zero | apply SetAt.succ))))); (exact Nat.le_of_ble_eq_true rfl)))); done)); intro bk57); (apply ol_val; exact rfl; first | (apply s_append_e; exact rfl; exact rfl; (focus ((repeat constructor); done)); exact el_23; exact sz_33; exact zb_33; exact rfl; exact by_33; (first | exact (fun _ => rfl)); (first | (apply RdN.own; (focus ((repeat constructor); done)); (focus ((repeat (first | exact rfl | constructor)); done)))); (first | exact rfl); (first | omega | (simp; omega) | (simp; done)); (first | omega | (simp; omega) | (simp; done)); intro rk58 sk58 ck58 ok58) | (apply s_append_r; exact rfl; exact rfl; (focus ((repeat constructor); done)); (first | exact rfl | exact (List.append_nil _).symm); exact el_23; exact sz_33; exact zb_33; exact rfl; exact by_33; (first | exact SO.nil _ | assumption | (exact ⟨by simp, by simp, Nat.le_refl _, by simp⟩)); (first | exact (fun _ => rfl)); (first | (apply RdN.own; (focus ((repeat constructor); done)); (focus ((repeat (first | exact rfl | constructor)); done)))); (first | exact rfl); (first | omega | (simp; omega) | (simp; done)); (first | omega | (simp; omega) | (simp; done)); intro rk58 sk58 ck58 ok58) | (apply s_append_b; exact rfl; exact rfl; (focus ((repeat constructor); done)); (first | exact rfl | exact (List.append_nil _).symm); exact el_23; exact sz_33; exact zb_33; exact rfl; exact by_33; (first | exact SO.nil _ | assumption | (exact ⟨by simp, by simp, Nat.le_refl _, by simp⟩)); (first | exact (fun _ => rfl)); (first | (apply RdN.own; (focus ((repeat constructor); done)); (focus ((repeat (first | exact rfl | constructor)); done)))); (first | exact rfl); (first | omega | (simp; omega) | (simp; done)); (first | omega | (simp; omega) | (simp; done)); intro rk58 sk58 ck58 ok58) | (apply s_append_n; exact rfl; exact rfl; (focus ((repeat constructor); done)); exact el_23; exact sz_33; exact zb_33; exact rfl; exact by_33; (first | exact (fun _ => rfl)); (first | (apply RdN.own; (focus ((repeat constructor); done)); (focus ((repeat (first | exact rfl | constructor)); done)))); (first | exact rfl); (first | omega | (simp; omega) | (simp; done)); (first | omega | (simp; omega) | (simp; done)); intro rk58 sk58 ck58 ok58)); (apply ol_as; exact rfl; exact rfl); (apply ol_nil))
        | (apply cw_cond_true; exact rfl; (first | exact rfl | assumption))
        | (apply cw_cond_false; exact rfl; (first | exact rfl | assumption))
        | apply cw_skip
        | apply cw_ret
        | apply cw_block
        | apply cw_exit
      all_goals
        rw [e1, e2]
        rw [e2] at ok58
        refine ⟨⟨app p (stepC p), f, out ++ [stepC p], rk58, A, ck58, sk58⟩, ⟨?_, View.le.refl _, ?_, ⟨hpos, app_length _ _, by simp; omega, by dsimp only; omega, by simpa using h5, ?_⟩, by dsimp only; omega⟩⟩
        · dsimp only; rw [List.length_append, h2]; (repeat (first | exact trivial | refine And.intro rfl ?_))
        · dsimp only; rw [flat_append, flat_one]; (repeat (first | exact Pick.nil | (apply Pick.cons; (focus ((repeat (first | exact Spl.here | apply Spl.there)); done))) | exact Pick.refl))
        · dsimp only; rw [List.length_append, flat_append, flat_one]; exact ok58
end Go.Proofs.Ytidjoikheklpiaa
