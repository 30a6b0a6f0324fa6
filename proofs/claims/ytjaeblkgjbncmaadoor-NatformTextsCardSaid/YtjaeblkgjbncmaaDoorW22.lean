/-
  natform.Text.
-/
import Derived.Test.YtjaeblkgjbncmaaDoorW21
import Derived.Test.YtjaeblkgjbncmaaDoorFw30
namespace Go.Proofs.YtjaeblkgjbncmaaDoor
set_option maxRecDepth 20000
set_option linter.unusedSimpArgs false
set_option linter.unusedVariables false
open Go Go.Fw
/-- The row in the middle of the division. -/
def dmid (k N Q j : Nat) : List Int := wI j N ++ (wI k Q).drop j
theorem dmid_length {k N Q j : Nat} (h : j ≤ k) : (dmid k N Q j).length = k := by unfold dmid; rw [List.length_append, List.length_drop, wI_length, wI_length]; omega
theorem dmid_top (k N Q : Nat) : dmid k N Q k = wI k N := by unfold dmid; rw [List.drop_of_length_le (by rw [wI_length]; exact Nat.le_refl _), List.append_nil]
theorem dmid_zero (k N Q : Nat) : dmid k N Q 0 = wI k Q := by unfold dmid; rw [wI_zero]; rfl
theorem dmid_get {k N Q i : Nat} : (dmid k N Q (i + 1)).getD i 0 = ((N / W ^ i % W : Nat) : Int) := by
  unfold dmid
  have h : i < (wI (i + 1) N).length := by rw [wI_length]; omega
  rw [List.getD_eq_getElem?_getD, List.getElem?_append_left h, List.getElem?_eq_getElem h, wI_get]
  rfl
theorem dmid_set {k N Q i : Nat} (hi : i < k) : (dmid k N Q (i + 1)).set i ((Q / W ^ i % W : Nat) : Int) = dmid k N Q i := by
  have h2 : i < (wI k Q).length := by rw [wI_length]; exact hi
  unfold dmid
  rw [wI_succ, List.append_assoc, List.set_append_right _ _ (by rw [wI_length]; exact Nat.le_refl _), wI_length, Nat.sub_self, List.drop_eq_getElem_cons h2, wI_get]
  rfl
theorem txt_len_words {k N m : Nat} (h : N < W ^ k) (hm : 1 ≤ m) (hk : 10 * k ≤ m) : (txt 10 N).length ≤ m := by
  refine txt_len_le (by decide) hm (Nat.lt_of_lt_of_le h ?_)
  refine Nat.le_trans (Nat.pow_le_pow_left (by decide : W ≤ 10 ^ 10) k) ?_
  rw [← Nat.pow_mul]
  exact Nat.pow_le_pow_right (by decide) hk
theorem chunks_len_words {k N m : Nat} (h : N < W ^ k) (hk : 2 * k ≤ m) : (chunks N).length ≤ m := by
  refine chunks_length (Nat.lt_of_lt_of_le h ?_)
  refine Nat.le_trans (Nat.pow_le_pow_left (by decide : W ≤ BI ^ 2) k) ?_
  rw [← Nat.pow_mul]
  exact Nat.pow_le_pow_right (by decide) hk
theorem fmt10_small {u : Nat} (h : u < BI) : (txt 10 u).length ≤ 9 ∧ List.replicate (9 - (txt 10 u).length) 48 ++ txt 10 u = fixT 10 9 u := pad_txt (by decide) (by decide) (by rw [← BI_10]; exact h)
theorem so_any {r : Option Nat} {k N Q cap : Nat} {sp : List Value} (h : SO r k cap (flat (eK .u32) (wI k N)) sp 1) : SO r k cap (flat (eK .u32) (wI k Q)) sp 1 := by
  have h1 := h.hcap
  rw [flatK_length, wI_length] at h1
  exact ⟨by rw [flatK_length, wI_length]; omega, by rw [flatK_length, wI_length]; exact h1, h.hle, h.hnone⟩
theorem fq_25_0 : fieldQ Tryd.prog 25 0 = some 0 := by kernel_rfl
structure XSt where
  Q : Nat
  r : Option Nat
  A : Option Addr
  c : Nat
  sp : List Value
  P : List (List Int)
  rp : Option Nat
  cp : Nat
  spp : List Value
end Go.Proofs.YtjaeblkgjbncmaaDoor
namespace Go.Proofs.YtjaeblkgjbncmaaDoor
set_option maxRecDepth 20000
set_option linter.unusedSimpArgs false
set_option linter.unusedVariables false
open Go Go.Fw
attribute [local irreducible] CW OL OD FX Stp FnC FnV Ret wI vd strOf txt fixT dmid
set_option maxHeartbeats 800000
theorem fmt10_spec {M : View} {w : World} (hM : View.le M (View.of w)) (hL : LT M) {u : Nat} (hu : u < 18446744073709551616) :
    FnC Tryd.prog 28 [.int .u64 u, .int .i64 10] w (fun v _ => v = .string (strOf (txt 10 u))) := by
  refine enterF (M := M) Tryd.func28 rfl rfl rfl rfl hM ?_
  have kt := fun (w' : World) (h : View.le M (View.of w')) => iFmt10_spec h hL hu
  repeat' first
    | apply cw_seq
    | (refine cw_region_id 0 ?_; (apply ol_as; exact rfl; exact rfl); (apply ol_nil))
    | (refine cw_region_id 1 ?_; (apply ol_mv; exact rfl; exact rfl); (apply ol_mv; exact rfl; exact rfl); (apply ol_val; exact rfl; apply s_callv; exact rfl; exact gf_41; (intro w' hw'; exact kt w' hw'.le)); (apply ol_as; exact rfl; exact rfl); (apply ol_nil))
    | (apply cw_cond_true; exact rfl; (first | exact rfl | assumption))
    | (apply cw_cond_false; exact rfl; (first | exact rfl | assumption))
    | apply cw_skip
    | apply cw_ret
    | apply cw_block
    | apply cw_exit
  refine ends [] (RVal.tmp rfl RVal.nil) Pick.nil ?_
  rfl
theorem text_spec {M : View} {w : World} (hM : View.le M (View.of w)) (hL : LT M) {a : Option Addr} {b o c k N : Nat} (hN : N < W ^ k) (hk : k ≤ 1000) (s : SlA M (eK .u32) 1 a (wI k N) b o) :
    FnC Tryd.prog 11 [.agg [.slice a k c].toArray] w (fun v _ => v = .string (strOf (txP 10 k N))) := by
  refine enterF (M := M) Tryd.func11 rfl rfl rfl rfl hM ?_
  unfold txP
  have kv := fun (w' : World) (h : View.le M (View.of w')) => valid_spec h (c := c) hN (by omega) s
  by_cases hv : vd k N = true
  · rw [if_pos hv]
    rw [hv] at kv
    have hk2 : k ≤ 64 ∧ nd W N = k := by unfold vd at hv; simpa using hv
    have kc := fun (w' : World) (h : View.le M (View.of w')) => clone_spec h (c := c) (by omega) s
    unfold WR at kc
    refine cw_none 9 ?_
    repeat' first
      | apply cw_seq
      | (refine cw_region_id 0 ?_; (apply ol_val; exact rfl; first | (apply s_boxN; exact rfl; intro bk1) | (apply s_box1; exact rfl; exact rfl; intro bk1)); (apply ol_as; exact rfl; exact rfl); (apply ol_nil))
      | (refine cw_region_id 1 ?_; (apply ol_ldN; exact rfl; exact rfl; exact rfl; exact sz_25; (apply RdN.own; (focus ((repeat constructor); done)); (focus ((repeat (first | exact rfl | constructor)); done)))); (apply ol_val; exact rfl; apply s_callv; exact rfl; exact gf_25; (intro w' hw'; exact kv w' hw'.le)); (apply ol_val; exact rfl; apply stp_pur; first | (apply s_not_t; exact rfl; (first | exact rfl | assumption)) | (apply s_not_f; exact rfl; (first | exact rfl | assumption)) | (apply s_not; exact rfl)); (apply ol_nil))
      | (refine cw_region_id 3 ?_; (apply ol_fa; exact rfl; exact rfl; exact fd_25_0; (first | exact Nat.zero_add _ | exact Nat.add_zero _ | exact rfl)); (apply ol_ld; exact rfl; exact rfl; exact rfl; (apply RdN.own; (focus ((repeat constructor); done)); exact GetN.cons rfl GetN.nil)); (apply ol_val; exact rfl; apply s_call; exact rfl; exact gf_26; (intro w' hw'; exact kc w' hw'.le); ((intro v new h; obtain ⟨r0, A0, cap0, sp0, rfl, rfl, so0⟩ := h))); (apply ol_as; exact rfl; exact rfl); (apply ol_nil))
      | (refine cw_region_id 4 ?_; (apply ol_as; exact rfl; exact rfl); (apply ol_nil))
      | (apply cw_cond_true; exact rfl; (first | exact rfl | assumption))
      | (apply cw_cond_false; exact rfl; (first | exact rfl | assumption))
      | apply cw_skip
      | apply cw_ret
      | apply cw_block
      | apply cw_exit
    refine cw_loopK (σ := XSt) [] (by (repeat (first | exact Keep.nil | (apply Keep.cons; exact rfl)))) (fun s => [(3, .slice (base s.r s.A) (nd W s.Q) s.c), (4, .slice (base s.rp none) s.P.length s.cp)]) (fun _ => M) (fun s => [⟨s.r, flat (eK .u32) (wI (nd W s.Q) s.Q) ++ s.sp, 51⟩, ⟨s.rp, flat eS s.P ++ s.spp, 9⟩, ⟨some bk1, [.slice a k c], 25⟩]) (fun s => (nd W s.Q ≤ 64 ∧ s.P ++ chunks s.Q = chunks N) ∧ SO s.r (nd W s.Q) s.c (flat (eK .u32) (wI (nd W s.Q) s.Q)) s.sp 1 ∧ SO s.rp s.P.length s.cp (flat eS s.P) s.spp 1) (fun s => s.Q) ⟨N, r0, A0, cap0, sp0, [], none, 0, []⟩ (by dsimp only; rw [hk2.2]; (repeat (first | exact trivial | refine And.intro rfl ?_))) (View.le.refl _) (by dsimp only; rw [hk2.2]; (repeat (first | exact Pick.nil | (apply Pick.cons; (focus ((repeat (first | exact Spl.here | apply Spl.there)); done))) | exact Pick.refl))) ⟨⟨by dsimp only; omega, rfl⟩, by dsimp only; rw [hk2.2]; exact so0, SO.nil 1⟩ ?_
    rintro ⟨Q, r, A, cp, sp, P, rp, cpp, spp⟩ ⟨⟨hQ64, hP⟩, so, sop⟩
    dsimp only at hQ64 hP so sop
    dsimp only
    have hPl : P.length ≤ 128 := by
      have h1 := congrArg List.length hP
      rw [List.length_append] at h1
      have h2 : (chunks N).length ≤ 128 := chunks_len_words hN (by omega)
      omega
    by_cases hK : nd W Q = 0
    · have hQ0 : Q = 0 := (nd_zero_iff (by decide)).1 hK
      subst hQ0
      rw [chunks_zero, List.append_nil] at hP
      subst hP
      by_cases hN0 : N = 0
      · subst hN0
        have e48 : strOf (txt 10 0) = (⟨#[48]⟩ : ByteArray) := by rw [str0]; unfold txt; rfl
        rw [e48]
        rw [chunks_zero] at *
        repeat' first
          | apply cw_seq
          | (refine cw_region_id 5 ?_; (apply ol_mv; exact rfl; exact rfl); (apply ol_val; exact rfl; apply stp_pur; apply s_len; exact rfl; exact el_23); (apply ol_val; exact rfl; apply stp_cmp; apply s_gtr; exact rfl; exact rfl; all_goals (intro hc17; try (exfalso; (first | exact hc17 rfl | omega)))); all_goals (apply ol_nil))
          | (refine cw_region_id 17 ?_; (apply ol_mv; exact rfl; exact rfl); (apply ol_val; exact rfl; apply stp_pur; apply s_len; exact rfl; exact el_52); (apply ol_val; exact rfl; apply stp_cmp; apply s_eql; exact rfl; exact rfl; all_goals (intro hc61; try (exfalso; (first | exact hc61 rfl | omega)))); all_goals (apply ol_nil))
          | (refine cw_region_id 18 ?_; (apply ol_as; exact rfl; exact rfl); (apply ol_nil))
          | (apply cw_cond_true; exact rfl; (first | exact rfl | assumption))
          | (apply cw_cond_false; exact rfl; (first | exact rfl | assumption))
          | apply cw_skip
          | apply cw_ret
          | apply cw_block
          | apply cw_exit
        refine ends [] (RVal.tmp rfl RVal.nil) Pick.nil ?_
        rfl
      · have htx := chunks_text (Nat.pos_of_ne_zero hN0)
        have htl : (txt 10 N).length ≤ 640 := txt_len_words hN (by decide) (by omega)
        have hc0 : 0 < (chunks N).length := by rw [chunks_pos (Nat.pos_of_ne_zero hN0)]; simp
        generalize hPN : chunks N = P at *
        obtain ⟨q, rfl⟩ : ∃ q, rp = some q := ⟨_, some_ref sop (by omega)⟩
        have hcle := sop.hle
        have kj : ∀ (w' : World), OB.ok ⟨some q, flat eS P.reverse ++ spp, 9⟩ w' → FnC Tryd.prog 31 [.slice (some ⟨q, 0, none⟩) P.length cpp, .string (⟨#[]⟩ : ByteArray)] w' (fun v _ => v = .string (strOf (txt 10 N))) := fun w' ho => by
          have := join_spec (P := P.reverse) (n := P.length) (List.length_reverse) ho hcle (by omega) (by rw [htx]; omega)
          rwa [htx] at this
        clear hPN
        repeat' first
          | apply cw_seq
          | (refine cw_region_id 5 ?_; (apply ol_mv; exact rfl; exact rfl); (apply ol_val; exact rfl; apply stp_pur; apply s_len; exact rfl; exact el_23); (apply ol_val; exact rfl; apply stp_cmp; apply s_gtr; exact rfl; exact rfl; all_goals (intro hc17; try (exfalso; (first | exact hc17 rfl | omega)))); all_goals (apply ol_nil))
          | (refine cw_region_id 17 ?_; (apply ol_mv; exact rfl; exact rfl); (apply ol_val; exact rfl; apply stp_pur; apply s_len; exact rfl; exact el_52); (apply ol_val; exact rfl; apply stp_cmp; apply s_eql; exact rfl; exact rfl; all_goals (intro hc61; try (exfalso; (first | exact hc61 rfl | omega)))); all_goals (apply ol_nil))
          | (refine cw_region_id 19 ?_; (apply ol_mv; exact rfl; exact rfl); (apply ol_val; exact rfl; apply s_callm; exact rfl; exact gf_30; (intro w' hw'; exact reverse_spec w' rfl (by omega) (by omega) (hw'.ok_ (by (repeat (first | exact Has.here | apply Has.there))))); (focus ((repeat constructor); done)); ((intro v cs' new h; subst h))); (apply ol_nil))
          | (refine cw_region_id 20 ?_; (apply ol_mv; exact rfl; exact rfl); (apply ol_val; exact rfl; apply s_callv; exact rfl; exact gf_31; (intro w' hw'; exact kj w' (hw'.ok_ (by (repeat (first | exact Has.here | apply Has.there)))))); (apply ol_as; exact rfl; exact rfl); (apply ol_nil))
          | (apply cw_cond_true; exact rfl; (first | exact rfl | assumption))
          | (apply cw_cond_false; exact rfl; (first | exact rfl | assumption))
          | apply cw_skip
          | apply cw_ret
          | apply cw_block
          | apply cw_exit
        refine ends [] (RVal.tmp rfl RVal.nil) Pick.nil ?_
        rfl
    · obtain ⟨q, rfl⟩ : ∃ q, r = some q := ⟨_, some_ref so (by omega)⟩
      have hQ0 : 0 < Q := Nat.pos_of_ne_zero fun h => hK ((nd_zero_iff (by decide)).2 h)
      have hch := chunks_pos hQ0
      have hQk := nd_lt (b := W) (by decide) Q
      have hdec : Q / BI < Q := Nat.div_lt_self hQ0 (by decide)
      have hbq : base (some q) A = some ⟨q, 0, none⟩ := rfl
      generalize hKe : nd W Q = K at *
      generalize hQe : Q / BI = Q1 at *
      have hQ1k : Q1 < W ^ K := by omega
      refine cw_none 51 ?_
      repeat' first
        | apply cw_seq
        | (refine cw_region_id 5 ?_; (apply ol_mv; exact rfl; exact rfl); (apply ol_val; exact rfl; apply stp_pur; apply s_len; exact rfl; exact el_23); (apply ol_val; exact rfl; apply stp_cmp; apply s_gtr; exact rfl; exact rfl; all_goals (intro hc17; try (exfalso; (first | exact hc17 rfl | omega)))); all_goals (apply ol_nil))
        | (refine cw_region_id 6 ?_; (apply ol_as; exact rfl; exact rfl); (apply ol_nil))
        | (refine cw_region_id 7 ?_; (apply ol_mv; exact rfl; exact rfl); (apply ol_val; exact rfl; apply stp_pur; apply s_len; exact rfl; exact el_23); (apply ol_val; exact rfl; apply stp_pur; apply s_sub64; exact rfl; exact rfl; omega); (apply ol_as; exact rfl; exact rfl); (apply ol_nil))
        | (apply cw_cond_true; exact rfl; (first | exact rfl | assumption))
        | (apply cw_cond_false; exact rfl; (first | exact rfl | assumption))
        | apply cw_skip
        | apply cw_ret
        | apply cw_block
        | apply cw_exit
      refine cw_loopK (σ := Nat) [3, 4] (by (repeat (first | exact Keep.nil | (apply Keep.cons; exact rfl)))) (fun j => [(5, .int .u64 (Q / W ^ j % BI : Nat)), (6, .int .i64 ((j : Int) - 1))]) (fun _ => M) (fun j => [⟨some q, flat (eK .u32) (dmid K Q Q1 j) ++ sp, 51⟩, ⟨rp, flat eS P ++ spp, 9⟩, ⟨some bk1, [.slice a k c], 25⟩, ⟨none, [], 51⟩]) (fun j => j ≤ K) (fun j => j) K (by rw [Nat.div_eq_of_lt hQk, Nat.zero_mod]; (repeat (first | exact trivial | refine And.intro rfl ?_))) (View.le.refl _) (by rw [dmid_top]; (repeat (first | exact Pick.nil | (apply Pick.cons; (focus ((repeat (first | exact Spl.here | apply Spl.there)); done))) | exact Pick.refl))) (Nat.le_refl _) ?_
      intro j hj
      by_cases h0 : j = 0
      · subst h0
        rw [dmid_zero, Nat.pow_zero, Nat.div_one]
        have hR : Q % BI < BI := Nat.mod_lt _ (by decide)
        have kt : ∀ (w' : World), OB.ok ⟨some q, flat (eK .u32) (wI K Q1) ++ sp, 51⟩ w' → FnC Tryd.prog 27 [.slice (base (some q) A) K cp] w' (fun v _ => v = .agg [.slice (if nd W Q1 = 0 then none else base (some q) A) (nd W Q1) (if nd W Q1 = 0 then 0 else cp)].toArray) := fun w' ho =>
          trimmed_spec (View.le.refl _) hQ1k (by omega) so.hle (SlA.ownW (A := A) ho (so_any so))
        have kf := fun (w' : World) (h : View.le M (View.of w')) => fmt10_spec h hL (u := Q % BI) (by have : BI = 1000000000 := rfl; omega)
        by_cases hz : nd W Q1 = 0
        · have hz1 : Q1 = 0 := (nd_zero_iff (by decide)).1 hz
          rw [if_pos hz, if_pos hz, hz] at kt
          rw [if_pos hz1] at hch
          have hP2 : (P ++ [txt 10 (Q % BI)]) ++ chunks 0 = chunks N := by rw [chunks_zero, List.append_nil, ← hP, hch, hz1, chunks_zero]
          have hfl : flat eS (P ++ [txt 10 (Q % BI)]) = flat eS P ++ [.string (strOf (txt 10 (Q % BI)))] := by rw [flat_append, flat_one]
          have hln : (P ++ [txt 10 (Q % BI)]).length = P.length + 1 := by rw [List.length_append]; rfl
          generalize txt 10 (Q % BI) = T at *
          repeat' first
            | apply cw_seq
            | (refine cw_region_id 8 ?_; (apply ol_mv; exact rfl; exact rfl); (apply ol_val; exact rfl; apply stp_cmp; apply s_geq; exact rfl; exact rfl; all_goals (intro hc22; try (exfalso; (first | exact hc22 rfl | omega)))); all_goals (apply ol_nil))
            | (refine cw_region_id 12 ?_; (apply ol_mv; exact rfl; exact rfl); (apply ol_val; exact rfl; apply s_callv; exact rfl; exact gf_27; (intro w' hw'; exact kt w' (hw'.ok_ (by (repeat (first | exact Has.here | apply Has.there)))))); (apply ol_val; exact rfl; apply stp_pur; apply s_fieldV; exact rfl; exact fq_25_0; exact rfl); (apply ol_as; exact rfl; exact rfl); (apply ol_nil))
            | (refine cw_region_id 13 ?_; (apply ol_mv; exact rfl; exact rfl); (apply ol_val; exact rfl; apply s_callv; exact rfl; exact gf_28; (intro w' hw'; exact kf w' hw'.le)); (apply ol_as; exact rfl; exact rfl); (apply ol_nil))
            | (refine cw_region_id 14 ?_; (apply ol_mv; exact rfl; exact rfl); (apply ol_val; exact rfl; apply stp_pur; apply s_len; exact rfl; exact el_23); (apply ol_val; exact rfl; apply stp_cmp; apply s_gtr; exact rfl; exact rfl; all_goals (intro hc48; try (exfalso; (first | exact hc48 rfl | omega)))); all_goals (apply ol_nil))
            | (refine cw_region_id 16 ?_; (apply ol_mv; exact rfl; exact rfl); (apply ol_mv; exact rfl; exact rfl); (apply ol_val; exact rfl; apply s_buildSl; exact rfl; exact el_52; exact sz_9; exact zb_9; (focus ((repeat constructor); done)); exact rfl; exact rfl; (exact Nat.le_of_ble_eq_true rfl); (focus ((repeat constructor); done)); (focus ((repeat (first | exact rfl | constructor)); done)); intro bk57); (apply ol_val; exact rfl; first | (apply s_append_e; exact rfl; exact rfl; (focus ((repeat constructor); done)); exact el_52; exact sz_9; exact zb_9; exact rfl; exact by_9; (first | exact (fun _ => rfl)); (first | (apply RdN.own; (focus ((repeat constructor); done)); (focus ((repeat (first | exact rfl | constructor)); done)))); (first | exact rfl); (first | omega | (simp; omega) | (simp; done)); (first | omega | (simp; omega) | (simp; done)); intro rk58 sk58 ck58 ok58) | (apply s_append_r; exact rfl; exact rfl; (focus ((repeat constructor); done)); (first | exact rfl | exact (List.append_nil _).symm); exact el_52; exact sz_9; exact zb_9; exact rfl; exact by_9; (first | exact SO.nil _ | assumption | (exact ⟨by simp, by simp, Nat.le_refl _, by simp⟩)); (first | exact (fun _ => rfl)); (first | (apply RdN.own; (focus ((repeat constructor); done)); (focus ((repeat (first | exact rfl | constructor)); done)))); (first | exact rfl); (first | omega | (simp; omega) | (simp; done)); (first | omega | (simp; omega) | (simp; done)); intro rk58 sk58 ck58 ok58) | (apply s_append_b; exact rfl; exact rfl; (focus ((repeat constructor); done)); (first | exact rfl | exact (List.append_nil _).symm); exact el_52; exact sz_9; exact zb_9; exact rfl; exact by_9; (first | exact SO.nil _ | assumption | (exact ⟨by simp, by simp, Nat.le_refl _, by simp⟩)); (first | exact (fun _ => rfl)); (first | (apply RdN.own; (focus ((repeat constructor); done)); (focus ((repeat (first | exact rfl | constructor)); done)))); (first | exact rfl); (first | omega | (simp; omega) | (simp; done)); (first | omega | (simp; omega) | (simp; done)); intro rk58 sk58 ck58 ok58) | (apply s_append_n; exact rfl; exact rfl; (focus ((repeat constructor); done)); exact el_52; exact sz_9; exact zb_9; exact rfl; exact by_9; (first | exact (fun _ => rfl)); (first | (apply RdN.own; (focus ((repeat constructor); done)); (focus ((repeat (first | exact rfl | constructor)); done)))); (first | exact rfl); (first | omega | (simp; omega) | (simp; done)); (first | omega | (simp; omega) | (simp; done)); intro rk58 sk58 ck58 ok58)); (apply ol_as; exact rfl; exact rfl); (apply ol_nil))
            | (apply cw_cond_true; exact rfl; (first | exact rfl | assumption))
            | (apply cw_cond_false; exact rfl; (first | exact rfl | assumption))
            | apply cw_skip
            | apply cw_ret
            | apply cw_block
            | apply cw_exit
          refine ⟨⟨0, none, none, 0, [], P ++ [T], rk58, ck58, sk58⟩, ⟨?_, View.le.refl _, ?_, ⟨⟨by dsimp only; rw [nd_zero]; decide, hP2⟩, ?_, ?_⟩, by dsimp only; exact hQ0⟩⟩
          · dsimp only
            rw [hln, nd_zero]
            (repeat (first | exact trivial | refine And.intro rfl ?_))
          · dsimp only
            rw [hfl, nd_zero, wI_zero]
            (repeat (first | exact Pick.nil | (apply Pick.cons; (focus ((repeat (first | exact Spl.here | apply Spl.there)); done))) | exact Pick.refl))
          · dsimp only
            rw [nd_zero, wI_zero]
            exact SO.nil 1
          · dsimp only
            rw [hln, hfl]
            exact ok58
        · have hz1 : Q1 ≠ 0 := fun h => hz ((nd_zero_iff (by decide)).2 h)
          rw [if_neg hz, if_neg hz] at kt
          rw [if_neg hz1] at hch
          obtain ⟨hTl, hRT⟩ := fmt10_small hR
          have hsz := strOf_size (txt 10 (Q % BI))
          have kr : ∀ (w' : World), FnC Tryd.prog 29 [.string (⟨#[48]⟩ : ByteArray), .int .i64 (9 - ((strOf (txt 10 (Q % BI))).size : Int))] w' (fun v _ => v = .string (strOf (List.replicate (9 - (txt 10 (Q % BI)).length) 48))) := fun w' => by
            rw [hsz]
            exact rep0_spec w' (m := 9) hTl (by decide)
          have hRl : (List.replicate (9 - (txt 10 (Q % BI)).length) (48 : Int)).length ≤ 9 := by rw [List.length_replicate]; omega
          have hnd1 : nd W Q1 ≤ K := nd_le (by decide) hQ1k
          rw [← hRT] at hch
          clear hRT
          generalize List.replicate (9 - (txt 10 (Q % BI)).length) (48 : Int) = Z at *
          generalize txt 10 (Q % BI) = T at *
          have hP2 : (P ++ [Z ++ T]) ++ chunks Q1 = chunks N := by rw [← hP, hch, List.append_assoc]; rfl
          have hfl : flat eS (P ++ [Z ++ T]) = flat eS P ++ [.string (strOf (Z ++ T))] := by rw [flat_append, flat_one]
          have hln : (P ++ [Z ++ T]).length = P.length + 1 := by rw [List.length_append]; rfl
          obtain ⟨so2, e2⟩ := SO.cutW (so_any (Q := Q1) so) hnd1
          repeat' first
            | apply cw_seq
            | (refine cw_region_id 8 ?_; (apply ol_mv; exact rfl; exact rfl); (apply ol_val; exact rfl; apply stp_cmp; apply s_geq; exact rfl; exact rfl; all_goals (intro hc22; try (exfalso; (first | exact hc22 rfl | omega)))); all_goals (apply ol_nil))
            | (refine cw_region_id 12 ?_; (apply ol_mv; exact rfl; exact rfl); (apply ol_val; exact rfl; apply s_callv; exact rfl; exact gf_27; (intro w' hw'; exact kt w' (hw'.ok_ (by (repeat (first | exact Has.here | apply Has.there)))))); (apply ol_val; exact rfl; apply stp_pur; apply s_fieldV; exact rfl; exact fq_25_0; exact rfl); (apply ol_as; exact rfl; exact rfl); (apply ol_nil))
            | (refine cw_region_id 13 ?_; (apply ol_mv; exact rfl; exact rfl); (apply ol_val; exact rfl; apply s_callv; exact rfl; exact gf_28; (intro w' hw'; exact kf w' hw'.le)); (apply ol_as; exact rfl; exact rfl); (apply ol_nil))
            | (refine cw_region_id 14 ?_; (apply ol_mv; exact rfl; exact rfl); (apply ol_val; exact rfl; apply stp_pur; apply s_len; exact rfl; exact el_23); (apply ol_val; exact rfl; apply stp_cmp; apply s_gtr; exact rfl; exact rfl; all_goals (intro hc48; try (exfalso; (first | exact hc48 rfl | omega)))); all_goals (apply ol_nil))
            | (refine cw_region_id 15 ?_; (apply ol_mv; exact rfl; exact rfl); (apply ol_val; exact rfl; apply stp_pur; apply s_len_string; exact rfl; exact rfl; exact rfl); (apply ol_val; exact rfl; apply stp_pur; apply s_sub64; exact rfl; exact rfl; omega); (apply ol_val; exact rfl; apply s_callv; exact rfl; exact gf_29; (intro w' hw'; exact kr w')); (apply ol_mv; exact rfl; exact rfl); (apply ol_val; exact rfl; apply stp_pur; apply s_cat; exact rfl; exact rfl; (first | omega)); (apply ol_as; exact rfl; exact rfl); (apply ol_nil))
            | (refine cw_region_id 16 ?_; (apply ol_mv; exact rfl; exact rfl); (apply ol_mv; exact rfl; exact rfl); (apply ol_val; exact rfl; apply s_buildSl; exact rfl; exact el_52; exact sz_9; exact zb_9; (focus ((repeat constructor); done)); exact rfl; exact rfl; (exact Nat.le_of_ble_eq_true rfl); (focus ((repeat constructor); done)); (focus ((repeat (first | exact rfl | constructor)); done)); intro bk57); (apply ol_val; exact rfl; first | (apply s_append_e; exact rfl; exact rfl; (focus ((repeat constructor); done)); exact el_52; exact sz_9; exact zb_9; exact rfl; exact by_9; (first | exact (fun _ => rfl)); (first | (apply RdN.own; (focus ((repeat constructor); done)); (focus ((repeat (first | exact rfl | constructor)); done)))); (first | exact rfl); (first | omega | (simp; omega) | (simp; done)); (first | omega | (simp; omega) | (simp; done)); intro rk58 sk58 ck58 ok58) | (apply s_append_r; exact rfl; exact rfl; (focus ((repeat constructor); done)); (first | exact rfl | exact (List.append_nil _).symm); exact el_52; exact sz_9; exact zb_9; exact rfl; exact by_9; (first | exact SO.nil _ | assumption | (exact ⟨by simp, by simp, Nat.le_refl _, by simp⟩)); (first | exact (fun _ => rfl)); (first | (apply RdN.own; (focus ((repeat constructor); done)); (focus ((repeat (first | exact rfl | constructor)); done)))); (first | exact rfl); (first | omega | (simp; omega) | (simp; done)); (first | omega | (simp; omega) | (simp; done)); intro rk58 sk58 ck58 ok58) | (apply s_append_b; exact rfl; exact rfl; (focus ((repeat constructor); done)); (first | exact rfl | exact (List.append_nil _).symm); exact el_52; exact sz_9; exact zb_9; exact rfl; exact by_9; (first | exact SO.nil _ | assumption | (exact ⟨by simp, by simp, Nat.le_refl _, by simp⟩)); (first | exact (fun _ => rfl)); (first | (apply RdN.own; (focus ((repeat constructor); done)); (focus ((repeat (first | exact rfl | constructor)); done)))); (first | exact rfl); (first | omega | (simp; omega) | (simp; done)); (first | omega | (simp; omega) | (simp; done)); intro rk58 sk58 ck58 ok58) | (apply s_append_n; exact rfl; exact rfl; (focus ((repeat constructor); done)); exact el_52; exact sz_9; exact zb_9; exact rfl; exact by_9; (first | exact (fun _ => rfl)); (first | (apply RdN.own; (focus ((repeat constructor); done)); (focus ((repeat (first | exact rfl | constructor)); done)))); (first | exact rfl); (first | omega | (simp; omega) | (simp; done)); (first | omega | (simp; omega) | (simp; done)); intro rk58 sk58 ck58 ok58)); (apply ol_as; exact rfl; exact rfl); (apply ol_nil))
            | (apply cw_cond_true; exact rfl; (first | exact rfl | assumption))
            | (apply cw_cond_false; exact rfl; (first | exact rfl | assumption))
            | apply cw_skip
            | apply cw_ret
            | apply cw_block
            | apply cw_exit
          refine ⟨⟨Q1, some q, A, cp, flat (eK .u32) ((wI K Q1).drop (nd W Q1)) ++ sp, P ++ [Z ++ T], rk58, ck58, sk58⟩, ⟨?_, View.le.refl _, ?_, ⟨⟨by dsimp only; omega, hP2⟩, ?_, ?_⟩, by dsimp only; omega⟩⟩
          · dsimp only
            rw [hln]
            (repeat (first | exact trivial | refine And.intro rfl ?_))
          · dsimp only
            rw [hfl, ← e2]
            (repeat (first | exact Pick.nil | (apply Pick.cons; (focus ((repeat (first | exact Spl.here | apply Spl.there)); done))) | exact Pick.refl))
          · dsimp only
            exact so2
          · dsimp only
            rw [hln, hfl]
            exact ok58
      · obtain ⟨i, rfl⟩ : ∃ i, j = i + 1 := ⟨j - 1, by omega⟩
        have hik : i < K := by omega
        have hlen := dmid_length (N := Q) (Q := Q1) hj
        have hget := dmid_get (k := K) (N := Q) (Q := Q1) (i := i)
        have hset := dmid_set (N := Q) (Q := Q1) hik
        have hw := div_word (N := Q) (d := BI) (i := i) (by decide) (by decide)
        have hr := (div_step (N := Q) (d := BI) (i := i) (by decide)).2
        rw [hQe] at hw
        have hX : Q / W ^ i % W < W := Nat.mod_lt _ W_pos
        have hR : Q / W ^ (i + 1) % BI < BI := Nat.mod_lt _ (by decide)
        have hwl : Q1 / W ^ i % W < W := Nat.mod_lt _ W_pos
        generalize Q1 / W ^ i % W = p at *
        generalize Q / W ^ i % W = X at *
        generalize Q / W ^ (i + 1) % BI = R at *
        have hRW : R < W := Nat.lt_trans hR (by decide)
        have hs := shl32 (R := R) hRW
        have ho := or32 (R := R) (X := X) hRW hX
        have hX32 : X < 4294967296 := hX
        have hA64 : R * W + X < 18446744073709551616 := by
          have h1 : (R + 1) * W ≤ W * W := Nat.mul_le_mul_right _ hRW
          rw [Nat.add_mul] at h1
          have h2 : W * W = 18446744073709551616 := rfl
          omega
        generalize R * W + X = Y at *
        generalize R * W = Z at *
        have ew : IntKind.u32.wrap (((Y : Nat) : Int) / 1000000000) = ((p : Nat) : Int) := by
          rw [show (1000000000 : Int) = ((BI : Nat) : Int) from rfl, ← Int.natCast_ediv, hw]
          exact wrap_u32 (by have : W = 4294967296 := rfl; omega)
        have er : ((Y : Nat) : Int) % 1000000000 = ((Q / W ^ i % BI : Nat) : Int) := by rw [show (1000000000 : Int) = ((BI : Nat) : Int) from rfl, ← Int.natCast_emod, hr]
        have e1 : ((i + 1 : Nat) : Int) - 1 = ((i : Nat) : Int) := by omega
        rw [e1]
        generalize hB : dmid K Q Q1 (i + 1) = B at *
        have hg2 : GetN ((flat (eK .u32) B ++ sp)[·]?) (0 + i * 1) 1 [.int .u32 ((X : Nat) : Int)] := by
          have := getNK (k := .u32) (sp := sp) (show i < B.length by omega)
          rwa [hget] at this
        have hs2 : SetAt (flat (eK .u32) B ++ sp) (0 + i * 1) (.int .u32 ((p : Nat) : Int)) (flat (eK .u32) (dmid K Q Q1 i) ++ sp) := by
          have := setAtK (k := .u32) (sp := sp) (v := ((p : Nat) : Int)) (show i < B.length by omega)
          rwa [hset] at this
        repeat' first
          | apply cw_seq
          | (refine cw_region_id 8 ?_; (apply ol_mv; exact rfl; exact rfl); (apply ol_val; exact rfl; apply stp_cmp; apply s_geq; exact rfl; exact rfl; all_goals (intro hc22; try (exfalso; (first | exact hc22 rfl | omega)))); all_goals (apply ol_nil))
          | (refine cw_region_id 10 ?_; (apply ol_mv; exact rfl; exact rfl); (apply ol_val; exact rfl; apply stp_pur; apply s_shlF; exact rfl; exact rfl; (first | decide | omega | (simp [IntKind.bits]; omega) | (simp [IntKind.bits]; done)); exact hs); (apply ol_mv; exact rfl; exact rfl); (apply ol_mv; exact rfl; exact rfl); (apply ol_val; exact rfl; apply stp_pur; first | (apply s_indexK; exact rfl; exact rfl; exact el_23; exact sz_51; (first | exact rfl | exact (show base (some q) A = _ from rfl)); omega) | (apply s_indexO; exact rfl; exact rfl; exact el_23; exact sz_51; (first | exact rfl | exact (show base (some q) A = _ from rfl)); omega)); (apply ol_ld; exact rfl; exact rfl; exact rfl; (apply RdN.own; (focus ((repeat constructor); done)); (first | exact GetN.cons rfl GetN.nil | exact hg2))); (apply ol_val; exact rfl; apply stp_pur; first | (apply s_conv; exact rfl; exact rfl; exact ti_41; (focus (apply wrap_u64; omega))) | (apply s_conv; exact rfl; exact rfl; exact ti_41; exact ew) | (apply s_conv; exact rfl; exact rfl; exact ti_41; exact rfl)); (apply ol_val; exact rfl; apply stp_pur; apply s_orE; exact rfl; exact rfl; exact ho); (apply ol_as; exact rfl; exact rfl); (apply ol_nil))
          | (refine cw_region_id 11 ?_; (apply ol_mv; exact rfl; exact rfl); (apply ol_mv; exact rfl; exact rfl); (apply ol_mv; exact rfl; exact rfl); (apply ol_val; exact rfl; apply stp_pur; apply s_quoN; exact rfl; exact rfl; (first | omega | (dsimp only [highK]; omega))); (apply ol_val; exact rfl; apply stp_pur; first | (apply s_conv; exact rfl; exact rfl; exact ti_51; (focus (apply wrap_u32; omega))) | (apply s_conv; exact rfl; exact rfl; exact ti_51; exact ew) | (apply s_conv; exact rfl; exact rfl; exact ti_51; exact rfl)); (apply ol_mv; exact rfl; exact rfl); (apply ol_val; exact rfl; apply stp_pur; apply s_remE; exact rfl; exact rfl; omega; exact er); (apply ol_val; exact rfl; apply stp_pur; first | (apply s_indexK; exact rfl; exact rfl; exact el_23; exact sz_51; (first | exact rfl | exact (show base (some q) A = _ from rfl)); omega) | (apply s_indexO; exact rfl; exact rfl; exact el_23; exact sz_51; (first | exact rfl | exact (show base (some q) A = _ from rfl)); omega)); (apply ol_eff; apply s_store1; exact rfl; exact rfl; exact sz_51; exact rfl; (focus ((repeat constructor); done)); (first | (focus ((repeat constructor); done)) | (apply setAt_ints_app; (first | omega | (simp; omega) | (simp; done))) | (apply setAt_ints; (first | omega | (simp; omega) | (simp; done))) | exact hs2 | (apply SetAt.set; (first | omega | (simp; omega) | (simp; done))))); (apply ol_as; exact rfl; exact rfl); (apply ol_nil))
          | (refine cw_region_id 9 ?_; (apply ol_mv; exact rfl; exact rfl); (apply ol_val; exact rfl; apply stp_pur; apply s_sub64; exact rfl; exact rfl; omega); (apply ol_as; exact rfl; exact rfl); (apply ol_nil))
          | (apply cw_cond_true; exact rfl; (first | exact rfl | assumption))
          | (apply cw_cond_false; exact rfl; (first | exact rfl | assumption))
          | apply cw_skip
          | apply cw_ret
          | apply cw_block
          | apply cw_exit
        exact ⟨i, ⟨by (repeat (first | exact trivial | refine And.intro rfl ?_)), View.le.refl _, by (repeat (first | exact Pick.nil | (apply Pick.cons; (focus ((repeat (first | exact Spl.here | apply Spl.there)); done))) | exact Pick.refl)), by omega, by omega⟩⟩
  · rw [if_neg hv]
    have hv1 : vd k N = false := by simpa using hv
    rw [hv1] at kv
    rw [← strE]
    repeat' first
      | apply cw_seq
      | (refine cw_region_id 0 ?_; (apply ol_val; exact rfl; first | (apply s_boxN; exact rfl; intro bk1) | (apply s_box1; exact rfl; exact rfl; intro bk1)); (apply ol_as; exact rfl; exact rfl); (apply ol_nil))
      | (refine cw_region_id 1 ?_; (apply ol_ldN; exact rfl; exact rfl; exact rfl; exact sz_25; (apply RdN.own; (focus ((repeat constructor); done)); (focus ((repeat (first | exact rfl | constructor)); done)))); (apply ol_val; exact rfl; apply s_callv; exact rfl; exact gf_25; (intro w' hw'; exact kv w' hw'.le)); (apply ol_val; exact rfl; apply stp_pur; first | (apply s_not_t; exact rfl; (first | exact rfl | assumption)) | (apply s_not_f; exact rfl; (first | exact rfl | assumption)) | (apply s_not; exact rfl)); (apply ol_nil))
      | (refine cw_region_id 2 ?_; (apply ol_as; exact rfl; exact rfl); (apply ol_nil))
      | (apply cw_cond_true; exact rfl; (first | exact rfl | assumption))
      | (apply cw_cond_false; exact rfl; (first | exact rfl | assumption))
      | apply cw_skip
      | apply cw_ret
      | apply cw_block
      | apply cw_exit
    refine ends [] (RVal.tmp rfl RVal.nil) Pick.nil ?_
    rfl
end Go.Proofs.YtjaeblkgjbncmaaDoor
