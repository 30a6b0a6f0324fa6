/-
  The walks of comparing.
-/
import Derived.Test.YtelidojkpbaofaaDoorJ8
namespace Go.Proofs.YtelidojkpbaofaaDoor
set_option maxRecDepth 20000
set_option linter.unusedSimpArgs false
set_option linter.unusedVariables false
open Go Go.Fw
attribute [local irreducible] CW OL OD FX Stp FnC FnV Ret sha strOf be8 be4 frB num4
set_option maxHeartbeats 800000
theorem eqB_spec {w : World} {M : View} (hM : View.le M (View.of w)) {xs ys : List Int} {n1 n2 : Nat} (e1 : xs.length = n1) (e2 : ys.length = n2) {p : Bool} (hp : decide (xs = ys) = p) {a1 a2 : Option Addr} {b1 o1 c1 b2 o2 c2 : Nat} (s1 : SlA M (eK .u8) 1 a1 xs b1 o1) (s2 : SlA M (eK .u8) 1 a2 ys b2 o2) (hl : xs.length ≤ 4611686018427387904) :
    FnC Tryd.prog 29 [.slice a1 n1 c1, .slice a2 n2 c2] w (fun v _ => v = .bool p) := by
  subst e1 e2 hp
  refine enterF (M := M) Tryd.func29 rfl rfl rfl rfl hM ?_
  by_cases hlen : xs.length = ys.length
  · have hlen' : (xs.length : Int) = ys.length := by omega
    repeat' first
      | apply cw_seq
      | (refine cw_region_id 0 ?_; (apply ol_as; exact rfl; exact rfl); (apply ol_nil))
      | (refine cw_region_id 1 ?_; (apply ol_mv; exact rfl; exact rfl); (apply ol_val; exact rfl; apply stp_pur; apply s_len; exact rfl; exact el_22); (apply ol_mv; exact rfl; exact rfl); (apply ol_val; exact rfl; apply stp_pur; apply s_len; exact rfl; exact el_22); (apply ol_val; exact rfl; apply stp_cmp; apply s_neq; exact rfl; exact rfl; all_goals (intro _; try (exfalso; (first | (rename_i hh; exact hh rfl) | omega)))); all_goals (apply ol_nil))
      | (refine cw_region_id 2 ?_; (apply ol_as; exact rfl; exact rfl); (apply ol_nil))
      | (refine cw_region_id 3 ?_; (apply ol_mv; exact rfl; exact rfl); (apply ol_val; exact rfl; apply stp_pur; apply s_len; exact rfl; exact el_22); (apply ol_mv; exact rfl; exact rfl); (apply ol_nil))
      | (apply cw_cond_true; exact rfl; (first | exact rfl | assumption))
      | (apply cw_cond_false; exact rfl; (first | exact rfl | assumption))
      | apply cw_skip
      | apply cw_ret
      | apply cw_block
      | apply cw_exit
    refine cw_loopK (σ := Nat) [0, 1, 12] (by (repeat (first | exact Keep.nil | (apply Keep.cons; exact rfl)))) (fun k => [(13, .int .i64 k)]) (fun _ => M) (fun _ => []) (fun k => k ≤ xs.length ∧ xs.take k = ys.take k) (fun k => xs.length - k) 0 (by (repeat (first | exact trivial | refine And.intro rfl ?_))) (View.le.refl _) Pick.nil ⟨by omega, by simp⟩ ?_
    intro k ⟨hk, ht⟩
    repeat' first
      | apply cw_seq
      | (refine cw_region_id 4 ?_; (apply ol_val; exact rfl; apply stp_cmp; apply s_lss; exact rfl; exact rfl; all_goals (intro _; try (exfalso; (first | (rename_i hh; exact hh rfl) | omega)))); all_goals (apply ol_nil))
      | (refine cw_region_id 5 ?_; (apply ol_mv; exact rfl; exact rfl); (apply ol_as; exact rfl; exact rfl); (apply ol_nil))
      | (refine cw_draw (id := 6) 9 (.mv 0 (.mv 1 (.mv 2 (.mv 3 (.mv 4 (.mv 5 (.mv 6 (.mv 7 (.mv 8 (PT.nil)))))))))) mixed (by kernel_rfl) ?_; (apply od_mv; exact rfl; exact rfl; apply s_move; exact rfl); (apply od_mv; exact rfl; exact rfl; apply s_move; exact rfl); (apply od_mv; exact rfl; exact rfl; first | (apply s_indexK; exact rfl; exact rfl; exact el_22; exact sz_5; (first | exact rfl | exact s1.at_ (by omega) | exact s2.at_ (by omega)); omega) | (apply s_indexO; exact rfl; exact rfl; exact el_22; exact sz_5; (first | exact rfl | exact s1.at_ (by omega) | exact s2.at_ (by omega)); omega)); (apply od_mv; exact rfl; exact rfl; apply s_load1; exact rfl; exact rfl; (first | (apply RdN.own; (focus ((repeat constructor); done)); (first | exact GetN.cons rfl GetN.nil | (apply getN_ints_app; (first | omega | (simp; omega) | (simp; done))) | (apply getN_ints; (first | omega | (simp; omega) | (simp; done))))) | (apply RdN.view; exact s1.cells _ (by omega)) | (apply RdN.view; exact s2.cells _ (by omega)))); (apply od_mv; exact rfl; exact rfl; apply s_move; exact rfl); (apply od_mv; exact rfl; exact rfl; apply s_move; exact rfl); (apply od_mv; exact rfl; exact rfl; first | (apply s_indexK; exact rfl; exact rfl; exact el_22; exact sz_5; (first | exact rfl | exact s1.at_ (by omega) | exact s2.at_ (by omega)); omega) | (apply s_indexO; exact rfl; exact rfl; exact el_22; exact sz_5; (first | exact rfl | exact s1.at_ (by omega) | exact s2.at_ (by omega)); omega)); (apply od_mv; exact rfl; exact rfl; apply s_load1; exact rfl; exact rfl; (first | (apply RdN.own; (focus ((repeat constructor); done)); (first | exact GetN.cons rfl GetN.nil | (apply getN_ints_app; (first | omega | (simp; omega) | (simp; done))) | (apply getN_ints; (first | omega | (simp; omega) | (simp; done))))) | (apply RdN.view; exact s1.cells _ (by omega)) | (apply RdN.view; exact s2.cells _ (by omega)))); (apply od_cmp; exact rfl; exact rfl; apply s_neq; exact rfl; exact rfl; all_goals (intro _; try (exfalso; (first | (rename_i hh; exact hh rfl) | omega)))); all_goals (apply od_nil; (first | exact Wk.refl _ _ | (focus (apply Wk.mk; (first | exact View.le.refl _ | assumption | exact View.le.trans (by assumption) (by assumption)); (repeat constructor); done)))); all_goals (apply ol_nil))
      | (refine cw_region_id 7 ?_; (apply ol_as; exact rfl; exact rfl); (apply ol_nil))
      | (refine cw_region_id 8 ?_; (apply ol_val; exact rfl; apply stp_pur; apply s_add64; exact rfl; exact rfl; omega); (apply ol_mv; exact rfl; exact rfl); (apply ol_nil))
      | (refine cw_region_id 9 ?_; (apply ol_as; exact rfl; exact rfl); (apply ol_nil))
      | (apply cw_cond_true; exact rfl; (first | exact rfl | assumption))
      | (apply cw_cond_false; exact rfl; (first | exact rfl | assumption))
      | apply cw_skip
      | apply cw_ret
      | apply cw_block
      | apply cw_exit
    · refine ends [] (RVal.tmp rfl RVal.nil) Pick.nil ?_
      rename_i h1 h2
      have : xs ≠ ys := fun e => h2 (by subst e; rfl)
      simp [tup, this]
    · rename_i h1 h2
      have hk' : k < xs.length := by omega
      refine ⟨k + 1, ⟨by (repeat (first | exact trivial | refine And.intro rfl ?_)), View.le.refl _, Pick.nil, ⟨by omega, ?_⟩, by omega⟩⟩
      rw [List.take_succ_eq_append_getElem hk', List.take_succ_eq_append_getElem (by omega : k < ys.length), ht]
      congr 2
      exact id (Decidable.not_not.1 h2)
    · refine ends [] (RVal.tmp rfl RVal.nil) Pick.nil ?_
      have e : k = xs.length := by omega
      subst e
      rw [List.take_length, hlen, List.take_length] at ht
      simp [tup, ht]
  · have hlen' : ¬ (xs.length : Int) = ys.length := by omega
    repeat' first
      | apply cw_seq
      | (refine cw_region_id 0 ?_; (apply ol_as; exact rfl; exact rfl); (apply ol_nil))
      | (refine cw_region_id 1 ?_; (apply ol_mv; exact rfl; exact rfl); (apply ol_val; exact rfl; apply stp_pur; apply s_len; exact rfl; exact el_22); (apply ol_mv; exact rfl; exact rfl); (apply ol_val; exact rfl; apply stp_pur; apply s_len; exact rfl; exact el_22); (apply ol_val; exact rfl; apply stp_cmp; apply s_neq; exact rfl; exact rfl; all_goals (intro _; try (exfalso; (first | (rename_i hh; exact hh rfl) | omega)))); all_goals (apply ol_nil))
      | (refine cw_region_id 2 ?_; (apply ol_as; exact rfl; exact rfl); (apply ol_nil))
      | (refine cw_region_id 3 ?_; (apply ol_mv; exact rfl; exact rfl); (apply ol_val; exact rfl; apply stp_pur; apply s_len; exact rfl; exact el_22); (apply ol_mv; exact rfl; exact rfl); (apply ol_nil))
      | (apply cw_cond_true; exact rfl; (first | exact rfl | assumption))
      | (apply cw_cond_false; exact rfl; (first | exact rfl | assumption))
      | apply cw_skip
      | apply cw_ret
      | apply cw_block
      | apply cw_exit
    refine ends [] (RVal.tmp rfl RVal.nil) Pick.nil ?_
    have : xs ≠ ys := fun e => hlen (by rw [e])
    simp [tup, this]

theorem same1_spec {M : View} {w : World} (hM : View.le M (View.of w)) {p : List Int} {n n' c c' : Nat} (hn : p.length = n) (hn' : p.length = n') (h63 : n ≤ 1073741824) {a a' : Option Addr} {b o b' o' : Nat} (s : SlA M (eK .u8) 1 a p b o) (s' : SlA M (eK .u8) 1 a' p b' o') :
    FnC Tryd.prog 38 [.slice a n c, .slice a' n' c'] w (fun v _ => v = .bool true) := by
  refine enterF (M := M) Tryd.func38 rfl rfl rfl rfl hM ?_
  have k1 := fun (w' : World) (hw' : View.le M (View.of w')) => eqB_spec (c1 := c) (c2 := c') hw' hn hn' (p := true) (decide_eq_true rfl) s s' (by omega)
  repeat' first
    | apply cw_seq
    | (refine cw_region_id 0 ?_; (apply ol_as; exact rfl; exact rfl); (apply ol_nil))
    | (refine cw_region_id 1 ?_; (apply ol_mv; exact rfl; exact rfl); (apply ol_mv; exact rfl; exact rfl); (apply ol_val; exact rfl; apply s_callv; exact rfl; exact gf_29; (intro w' hw'; exact k1 w' hw'.le)); (apply ol_as; exact rfl; exact rfl); (apply ol_nil))
    | (apply cw_cond_true; exact rfl; (first | exact rfl | assumption))
    | (apply cw_cond_false; exact rfl; (first | exact rfl | assumption))
    | apply cw_skip
    | apply cw_ret
    | apply cw_block
    | apply cw_exit
  refine ends [] (RVal.tmp rfl RVal.nil) Pick.nil ?_
  rfl

theorem sameL_spec {M : View} {w : World} (hM : View.le M (View.of w)) {R1 R2 : List (Sl Int)} {n n' c c' : Nat} (hn : R1.length = n) (hn' : R2.length = n') (h63 : n ≤ 1073741824) (he : R1.map Sl.xs = R2.map Sl.xs) {A A' : Option Addr} {b o b' o' : Nat} (s : SlA M Sl.enc 1 A R1 b o) (s' : SlA M Sl.enc 1 A' R2 b' o')
    (h1 : ∀ x ∈ R1, x.xs.length ≤ 1073741824 ∧ SlA M (eK .u8) 1 x.a x.xs x.b x.o) (h2 : ∀ x ∈ R2, SlA M (eK .u8) 1 x.a x.xs x.b x.o) :
    FnC Tryd.prog 19 [.slice A n c, .slice A' n' c'] w (fun v _ => v = .bool true) := by
  have hnn : n = n' := by
    have := congrArg List.length he
    rw [List.length_map, List.length_map] at this
    omega
  subst hnn
  have hxs : ∀ i (h : i < R1.length) (h' : i < R2.length), R1[i].xs = R2[i].xs := fun i h h' => by
    have := congrArg (fun l => l[i]?) he
    simp only [List.getElem?_map, List.getElem?_eq_getElem h, List.getElem?_eq_getElem h', Option.map_some, Option.some.injEq] at this
    exact this
  refine enterF (M := M) Tryd.func19 rfl rfl rfl rfl hM ?_
  have k1 : ∀ w', View.le M (View.of w') → FnC Tryd.prog 37 [.slice A n c, .slice A' n c', .func (.func 38) #[] #[]] w' (fun v _ => v = .bool true) := fun w' hw' => by
    refine enterF (M := M) Tryd.func37 rfl rfl rfl rfl hw' ?_
    repeat' first
      | apply cw_seq
      | (refine cw_region_id 0 ?_; (apply ol_as; exact rfl; exact rfl); (apply ol_nil))
      | (refine cw_region_id 1 ?_; (apply ol_mv; exact rfl; exact rfl); (apply ol_val; exact rfl; apply stp_pur; apply s_len; exact rfl; exact el_36); (apply ol_mv; exact rfl; exact rfl); (apply ol_val; exact rfl; apply stp_pur; apply s_len; exact rfl; exact el_36); (apply ol_val; exact rfl; apply stp_cmp; apply s_neq; exact rfl; exact rfl; all_goals (intro hc14; try (exfalso; (first | exact hc14 rfl | omega)))); all_goals (apply ol_nil))
      | (refine cw_region_id 2 ?_; (apply ol_as; exact rfl; exact rfl); (apply ol_nil))
      | (refine cw_region_id 3 ?_; (apply ol_mv; exact rfl; exact rfl); (apply ol_val; exact rfl; apply stp_pur; apply s_len; exact rfl; exact el_36); (apply ol_mv; exact rfl; exact rfl); (apply ol_nil))
      | (apply cw_cond_true; exact rfl; (first | exact rfl | assumption))
      | (apply cw_cond_false; exact rfl; (first | exact rfl | assumption))
      | apply cw_skip
      | apply cw_ret
      | apply cw_block
      | apply cw_exit
    refine cw_loopK (σ := Nat) [1, 2, 15, 16] (by (repeat (first | exact Keep.nil | (apply Keep.cons; exact rfl)))) (fun i => [(17, .int .i64 i)]) (fun _ => M) (fun _ => []) (fun i => i ≤ n) (fun i => n - i) 0 (by (repeat (first | exact trivial | refine And.intro rfl ?_))) (View.le.refl _) (by (repeat (first | exact Pick.nil | (apply Pick.cons; (focus ((repeat (first | exact Spl.here | apply Spl.there)); done))) | exact Pick.refl))) (Nat.zero_le _) ?_
    rintro i hi
    try dsimp only
    by_cases hin : i < n
    · have g1 := s.cells i (by omega)
      have g2 := s'.cells i (by omega)
      have e := hxs i (by omega) (by omega)
      have x1 := h1 R1[i] (List.getElem_mem _)
      have x2 := h2 R2[i] (List.getElem_mem _)
      generalize R1[i]'(by omega) = X at *
      generalize R2[i]'(by omega) = Y at *
      obtain ⟨xs, xa, xb, xo, xc⟩ := X
      obtain ⟨ys, ya, yb, yo, yc⟩ := Y
      dsimp only at e x1 x2
      subst e
      have k2 := fun (w' : World) (hw' : View.le M (View.of w')) => same1_spec (c := xc) (c' := yc) hw' rfl rfl x1.1 x1.2 x2
      repeat' first
        | apply cw_seq
        | (refine cw_region_id 4 ?_; (apply ol_val; exact rfl; apply stp_cmp; apply s_lss; exact rfl; exact rfl; all_goals (intro hc18; try (exfalso; (first | exact hc18 rfl | omega)))); all_goals (apply ol_nil))
        | (refine cw_region_id 5 ?_; (apply ol_mv; exact rfl; exact rfl); (apply ol_val; exact rfl; apply stp_pur; first | (apply s_indexK; exact rfl; exact rfl; exact el_36; exact sz_22; (first | exact rfl | exact s.at_ (by omega) | exact s'.at_ (by omega)); omega) | (apply s_indexO; exact rfl; exact rfl; exact el_36; exact sz_22; (first | exact rfl | exact s.at_ (by omega) | exact s'.at_ (by omega)); omega)); (apply ol_ld; exact rfl; exact rfl; exact rfl; (first | (apply RdN.own; (focus ((repeat constructor); done)); exact GetN.cons rfl GetN.nil) | (apply RdN.view; exact g1) | (apply RdN.view; exact g2))); (apply ol_as; exact rfl; exact rfl); (apply ol_as; exact rfl; exact rfl); (apply ol_nil))
        | (refine cw_region_id 6 ?_; (apply ol_mv; exact rfl; exact rfl); (apply ol_mv; exact rfl; exact rfl); (apply ol_val; exact rfl; apply stp_pur; first | (apply s_indexK; exact rfl; exact rfl; exact el_36; exact sz_22; (first | exact rfl | exact s.at_ (by omega) | exact s'.at_ (by omega)); omega) | (apply s_indexO; exact rfl; exact rfl; exact el_36; exact sz_22; (first | exact rfl | exact s.at_ (by omega) | exact s'.at_ (by omega)); omega)); (apply ol_ld; exact rfl; exact rfl; exact rfl; (first | (apply RdN.own; (focus ((repeat constructor); done)); exact GetN.cons rfl GetN.nil) | (apply RdN.view; exact g1) | (apply RdN.view; exact g2))); (apply ol_as; exact rfl; exact rfl); (apply ol_nil))
        | (refine cw_region_id 7 ?_; (apply ol_mv; exact rfl; exact rfl); (apply ol_mv; exact rfl; exact rfl); (apply ol_mv; exact rfl; exact rfl); (apply ol_val; exact rfl; apply s_clov; exact rfl; exact rfl; exact rfl; (intro w' hw'; exact k2 w' hw'.le)); (apply ol_val; exact rfl; apply stp_pur; first | (apply s_not_t; exact rfl; (first | exact rfl | assumption)) | (apply s_not_f; exact rfl; (first | exact rfl | assumption)) | (apply s_not; exact rfl)); (apply ol_nil))
        | (refine cw_region_id 8 ?_; (apply ol_as; exact rfl; exact rfl); (apply ol_nil))
        | (refine cw_region_id 9 ?_; (apply ol_val; exact rfl; apply stp_pur; apply s_add64; exact rfl; exact rfl; omega); (apply ol_mv; exact rfl; exact rfl); (apply ol_nil))
        | (refine cw_region_id 10 ?_; (apply ol_as; exact rfl; exact rfl); (apply ol_nil))
        | (apply cw_cond_true; exact rfl; (first | exact rfl | assumption))
        | (apply cw_cond_false; exact rfl; (first | exact rfl | assumption))
        | apply cw_skip
        | apply cw_ret
        | apply cw_block
        | apply cw_exit
      exact ⟨i + 1, ⟨by (repeat (first | exact trivial | refine And.intro rfl ?_)), View.le.refl _, by (repeat (first | exact Pick.nil | (apply Pick.cons; (focus ((repeat (first | exact Spl.here | apply Spl.there)); done))) | exact Pick.refl)), hin, by omega⟩⟩
    · have : i = n := by omega
      subst this
      repeat' first
        | apply cw_seq
        | (refine cw_region_id 4 ?_; (apply ol_val; exact rfl; apply stp_cmp; apply s_lss; exact rfl; exact rfl; all_goals (intro hc18; try (exfalso; (first | exact hc18 rfl | omega)))); all_goals (apply ol_nil))
        | (refine cw_region_id 5 ?_; (apply ol_mv; exact rfl; exact rfl); (apply ol_val; exact rfl; apply stp_pur; first | (apply s_indexK; exact rfl; exact rfl; exact el_36; exact sz_22; (first | exact rfl); omega) | (apply s_indexO; exact rfl; exact rfl; exact el_36; exact sz_22; (first | exact rfl); omega)); (apply ol_ld; exact rfl; exact rfl; exact rfl; (apply RdN.own; (focus ((repeat constructor); done)); exact GetN.cons rfl GetN.nil)); (apply ol_as; exact rfl; exact rfl); (apply ol_as; exact rfl; exact rfl); (apply ol_nil))
        | (refine cw_region_id 6 ?_; (apply ol_mv; exact rfl; exact rfl); (apply ol_mv; exact rfl; exact rfl); (apply ol_val; exact rfl; apply stp_pur; first | (apply s_indexK; exact rfl; exact rfl; exact el_36; exact sz_22; (first | exact rfl); omega) | (apply s_indexO; exact rfl; exact rfl; exact el_36; exact sz_22; (first | exact rfl); omega)); (apply ol_ld; exact rfl; exact rfl; exact rfl; (apply RdN.own; (focus ((repeat constructor); done)); exact GetN.cons rfl GetN.nil)); (apply ol_as; exact rfl; exact rfl); (apply ol_nil))
        | (refine cw_region_id 7 ?_; (apply ol_mv; exact rfl; exact rfl); (apply ol_mv; exact rfl; exact rfl); (apply ol_mv; exact rfl; exact rfl))
        | (refine cw_region_id 8 ?_; (apply ol_as; exact rfl; exact rfl); (apply ol_nil))
        | (refine cw_region_id 9 ?_; (apply ol_val; exact rfl; apply stp_pur; apply s_add64; exact rfl; exact rfl; omega); (apply ol_mv; exact rfl; exact rfl); (apply ol_nil))
        | (refine cw_region_id 10 ?_; (apply ol_as; exact rfl; exact rfl); (apply ol_nil))
        | (apply cw_cond_true; exact rfl; (first | exact rfl | assumption))
        | (apply cw_cond_false; exact rfl; (first | exact rfl | assumption))
        | apply cw_skip
        | apply cw_ret
        | apply cw_block
        | apply cw_exit
      refine ends [] (RVal.tmp rfl RVal.nil) Pick.nil ?_
      rfl
  repeat' first
    | apply cw_seq
    | (refine cw_region_id 0 ?_; (apply ol_as; exact rfl; exact rfl); (apply ol_nil))
    | (refine cw_region_id 1 ?_; (apply ol_mv; exact rfl; exact rfl); (apply ol_mv; exact rfl; exact rfl); (apply ol_val; exact rfl; apply s_callv; exact rfl; exact gf_37; (intro w' hw'; exact k1 w' hw'.le)); (apply ol_as; exact rfl; exact rfl); (apply ol_nil))
    | (apply cw_cond_true; exact rfl; (first | exact rfl | assumption))
    | (apply cw_cond_false; exact rfl; (first | exact rfl | assumption))
    | apply cw_skip
    | apply cw_ret
    | apply cw_block
    | apply cw_exit
  refine ends [] (RVal.tmp rfl RVal.nil) Pick.nil ?_
  rfl

theorem jsame_spec {M : View} {w : World} (hM : View.le M (View.of w)) {p : List Int} {n n' c c' : Nat} (hn : p.length = n) (hn' : p.length = n') {a a' : Option Addr} {b o b' o' : Nat} (s : SlA M (eK .u8) 1 a p b o) (s' : SlA M (eK .u8) 1 a' p b' o') (du af : Int) :
    FnC Tryd.prog 16 [.agg [.slice a n c, .int .i64 du, .int .i64 af].toArray, .agg [.slice a' n' c', .int .i64 du, .int .i64 af].toArray] w (fun v _ => v = .bool true) := by
  refine enterF (M := M) Tryd.func16 rfl rfl rfl rfl hM ?_
  have hbe : ((strOf p).toList == (strOf p).toList) = true := beq_self_eq_true _
  repeat' first
    | apply cw_seq
    | (refine cw_region_id 0 ?_; (apply ol_val; exact rfl; first | (apply s_boxN; exact rfl; intro bk2) | (apply s_box1; exact rfl; exact rfl; intro bk2)); (apply ol_val; exact rfl; first | (apply s_boxN; exact rfl; intro bk3) | (apply s_box1; exact rfl; exact rfl; intro bk3)); (apply ol_as; exact rfl; exact rfl); (apply ol_nil))
    | (refine cw_region_id 1 ?_; (apply ol_fa; exact rfl; exact rfl; exact fd_24_0; (first | exact Nat.zero_add _ | exact Nat.add_zero _ | exact rfl)); (apply ol_ld; exact rfl; exact rfl; exact rfl; (apply RdN.own; (focus ((repeat constructor); done)); exact GetN.cons rfl GetN.nil)); (apply ol_val; exact rfl; apply stp_pur; apply s_convBS; exact rfl; exact el_22; exact tdInt_eq ti_5; exact us_9; (first | exact s.atn hn | exact s'.atn hn'); (first | exact hn | exact hn'); (first | exact s.rd hn | exact s'.rd hn')); (apply ol_fa; exact rfl; exact rfl; exact fd_24_0; (first | exact Nat.zero_add _ | exact Nat.add_zero _ | exact rfl)); (apply ol_ld; exact rfl; exact rfl; exact rfl; (apply RdN.own; (focus ((repeat constructor); done)); exact GetN.cons rfl GetN.nil)); (apply ol_val; exact rfl; apply stp_pur; apply s_convBS; exact rfl; exact el_22; exact tdInt_eq ti_5; exact us_9; (first | exact s.atn hn | exact s'.atn hn'); (first | exact hn | exact hn'); (first | exact s.rd hn | exact s'.rd hn')); (apply ol_val; exact rfl; apply stp_pur; apply s_eqlStr; exact rfl; exact rfl); (apply ol_mv; exact rfl; exact rfl); (first | (apply ol_gskip; exact rfl; exact rfl; (first | exact rfl | assumption); exact rfl) | (apply ol_gval; exact rfl; exact rfl; exact rfl; (first | exact rfl | assumption); apply stp_pur; apply s_fieldAddr'; exact rfl; exact fd_24_1; (first | exact Nat.zero_add _ | exact Nat.add_zero _ | exact rfl))); (first | (apply ol_gskip; exact rfl; exact rfl; (first | exact rfl | assumption); exact rfl) | (apply ol_gval; exact rfl; exact rfl; exact rfl; (first | exact rfl | assumption); apply stp_pur; apply s_load1; exact rfl; exact rfl; (apply RdN.own; (focus ((repeat constructor); done)); (first | exact GetN.cons rfl GetN.nil | (apply getN_ints_app; (first | omega | (simp; omega) | (simp; done))) | (apply getN_ints; (first | omega | (simp; omega) | (simp; done))))))); (first | (apply ol_gskip; exact rfl; exact rfl; (first | exact rfl | assumption); exact rfl) | (apply ol_gval; exact rfl; exact rfl; exact rfl; (first | exact rfl | assumption); apply stp_pur; apply s_fieldAddr'; exact rfl; exact fd_24_1; (first | exact Nat.zero_add _ | exact Nat.add_zero _ | exact rfl))); (first | (apply ol_gskip; exact rfl; exact rfl; (first | exact rfl | assumption); exact rfl) | (apply ol_gval; exact rfl; exact rfl; exact rfl; (first | exact rfl | assumption); apply stp_pur; apply s_load1; exact rfl; exact rfl; (apply RdN.own; (focus ((repeat constructor); done)); (first | exact GetN.cons rfl GetN.nil | (apply getN_ints_app; (first | omega | (simp; omega) | (simp; done))) | (apply getN_ints; (first | omega | (simp; omega) | (simp; done))))))); (first | (apply ol_gskip; exact rfl; exact rfl; (first | exact rfl | assumption); exact rfl) | (apply ol_gval; exact rfl; exact rfl; exact rfl; (first | exact rfl | assumption); apply stp_cmp; apply s_eql; exact rfl; exact rfl; all_goals (intro hc17; try (exfalso; (first | exact hc17 rfl | omega))))); all_goals (apply ol_val; exact rfl; apply stp_pur; first | (apply s_pick_t; exact rfl; (first | exact rfl | assumption); exact rfl) | (apply s_pick_f; exact rfl; (first | exact rfl | assumption); exact rfl)); all_goals (apply ol_mv; exact rfl; exact rfl); all_goals (first | (apply ol_gskip; exact rfl; exact rfl; (first | exact rfl | assumption); exact rfl) | (apply ol_gval; exact rfl; exact rfl; exact rfl; (first | exact rfl | assumption); apply stp_pur; apply s_fieldAddr'; exact rfl; exact fd_24_2; (first | exact Nat.zero_add _ | exact Nat.add_zero _ | exact rfl))); all_goals (first | (apply ol_gskip; exact rfl; exact rfl; (first | exact rfl | assumption); exact rfl) | (apply ol_gval; exact rfl; exact rfl; exact rfl; (first | exact rfl | assumption); apply stp_pur; apply s_load1; exact rfl; exact rfl; (apply RdN.own; (focus ((repeat constructor); done)); (first | exact GetN.cons rfl GetN.nil | (apply getN_ints_app; (first | omega | (simp; omega) | (simp; done))) | (apply getN_ints; (first | omega | (simp; omega) | (simp; done))))))); all_goals (first | (apply ol_gskip; exact rfl; exact rfl; (first | exact rfl | assumption); exact rfl) | (apply ol_gval; exact rfl; exact rfl; exact rfl; (first | exact rfl | assumption); apply stp_pur; apply s_fieldAddr'; exact rfl; exact fd_24_2; (first | exact Nat.zero_add _ | exact Nat.add_zero _ | exact rfl))); all_goals (first | (apply ol_gskip; exact rfl; exact rfl; (first | exact rfl | assumption); exact rfl) | (apply ol_gval; exact rfl; exact rfl; exact rfl; (first | exact rfl | assumption); apply stp_pur; apply s_load1; exact rfl; exact rfl; (apply RdN.own; (focus ((repeat constructor); done)); (first | exact GetN.cons rfl GetN.nil | (apply getN_ints_app; (first | omega | (simp; omega) | (simp; done))) | (apply getN_ints; (first | omega | (simp; omega) | (simp; done))))))); all_goals (first | (apply ol_gskip; exact rfl; exact rfl; (first | exact rfl | assumption); exact rfl) | (apply ol_gval; exact rfl; exact rfl; exact rfl; (first | exact rfl | assumption); apply stp_cmp; apply s_eql; exact rfl; exact rfl; all_goals (intro hc24; try (exfalso; (first | exact hc24 rfl | omega))))); all_goals (apply ol_val; exact rfl; apply stp_pur; first | (apply s_pick_t; exact rfl; (first | exact rfl | assumption); exact rfl) | (apply s_pick_f; exact rfl; (first | exact rfl | assumption); exact rfl)); all_goals (apply ol_as; exact rfl; exact rfl); all_goals (apply ol_nil))
    | (apply cw_cond_true; exact rfl; (first | exact rfl | assumption))
    | (apply cw_cond_false; exact rfl; (first | exact rfl | assumption))
    | apply cw_skip
    | apply cw_ret
    | apply cw_block
    | apply cw_exit
  refine ends [] (RVal.tmp rfl RVal.nil) Pick.nil ?_
  rfl
end Go.Proofs.YtelidojkpbaofaaDoor
