/-
  The reference's Text.
-/
import Derived.Test.YtjaeblkgjbncmaaDoorW22
namespace Go.Proofs.YtjaeblkgjbncmaaDoor
set_option maxRecDepth 20000
set_option linter.unusedSimpArgs false
set_option linter.unusedVariables false
open Go Go.Fw
/-- The digits of a number, none for 0. -/
def tx0 (b n : Nat) : List Int := (dg b n).reverse.map chr
theorem tx0_zero (b : Nat) : tx0 b 0 = [] := by unfold tx0 dg; rw [nd_zero]; rfl
theorem tx0_step {b n : Nat} (hb : 2 ≤ b) (h : 0 < n) : tx0 b n = tx0 b (n / b) ++ [chr (n % b)] := by
  unfold tx0 dg
  rw [nd_pos hb h, lw_cons]
  simp
theorem tx0_txt {b n : Nat} (h : 0 < n) : txt b n = tx0 b n := txt_pos h
theorem tx0_len {b n m : Nat} (hb : 2 ≤ b) (h : n < W ^ m) : (tx0 b n).length ≤ 32 * m := by
  unfold tx0
  rw [List.length_map, List.length_reverse, lw_length]
  refine nd_le hb (Nat.lt_of_lt_of_le h ?_)
  rw [W_2, ← Nat.pow_mul]
  exact Nat.pow_le_pow_left hb _
structure YSt where
  Q : Nat
  r : Option Nat
  A : Option Addr
  c : Nat
  sp : List Value
  X : List Int
end Go.Proofs.YtjaeblkgjbncmaaDoor
namespace Go.Proofs.YtjaeblkgjbncmaaDoor
set_option maxRecDepth 20000
set_option linter.unusedSimpArgs false
set_option linter.unusedVariables false
open Go Go.Fw
attribute [local irreducible] CW OL OD FX Stp FnC FnV Ret wI vd strOf txt tx0 chr
set_option maxHeartbeats 800000
theorem rtext_spec {M : View} {w : World} (hM : View.le M (View.of w)) {d : Nat} (hd : d = 10 ∨ d = 16) {a : Option Addr} {b o c k N : Nat} (hv : vd k N = true) (s : SlA M (eK .u32) 1 a (wI k N) b o) :
    FnC Tryd.prog 23 [.agg [.slice a k c].toArray, .int .u64 d] w (fun v _ => v = .string (strOf (txt d N))) := by
  refine enterF (M := M) Tryd.func23 rfl rfl rfl rfl hM ?_
  have hk2 : k ≤ 64 ∧ nd W N = k := by unfold vd at hv; simpa using hv
  have hN : N < W ^ k := by rw [← hk2.2]; exact nd_lt (by decide) N
  have hall := SlA.all (eK_length .u32) s
  rw [wI_length] at hall
  by_cases h0 : k = 0
  · have hz : N = 0 := (nd_zero_iff (by decide)).1 (hk2.2.trans h0)
    have ht : strOf (txt d N) = (⟨#[48]⟩ : ByteArray) := by rw [hz, str0]; unfold txt; rfl
    rw [ht]
    repeat' first
      | apply cw_seq
      | (refine cw_region_id 0 ?_; (apply ol_val; exact rfl; first | (apply s_boxN; exact rfl; intro bk2) | (apply s_box1; exact rfl; exact rfl; intro bk2)); (apply ol_as; exact rfl; exact rfl); (apply ol_nil))
      | (refine cw_region_id 1 ?_; (apply ol_val; exact rfl; apply s_buildSl; exact rfl; exact el_23; exact sz_51; exact zb_51; (focus ((repeat constructor); done)); exact rfl; exact rfl; (exact Nat.le_of_ble_eq_true rfl); (focus ((repeat constructor); done)); (focus ((repeat (first | exact rfl | constructor)); done)); intro bk9); (apply ol_fa; exact rfl; exact rfl; exact fd_25_0; (first | exact Nat.zero_add _ | exact Nat.add_zero _ | exact rfl)); (apply ol_ld; exact rfl; exact rfl; exact rfl; (apply RdN.own; (focus ((repeat constructor); done)); exact GetN.cons rfl GetN.nil)); (apply ol_val; exact rfl; first | (apply s_append_e; exact rfl; exact rfl; (focus ((repeat constructor); done)); exact el_23; exact sz_51; exact zb_51; exact rfl; exact by_51; (first | exact (fun _ => rfl) | (intro _; exact s.at_ (by rw [wI_length]; omega))); (first | (apply RdN.own; (focus ((repeat constructor); done)); (focus ((repeat (first | exact rfl | constructor)); done))) | (apply RdN.view; exact hall)); (first | exact rfl | exact ones_flat (fun _ => rfl) _); (first | omega | (simp; omega) | (simp; done)); (first | omega | (simp; omega) | (simp; done)); intro rk12 sk12 ck12 ok12) | (apply s_append_r; exact rfl; exact rfl; (focus ((repeat constructor); done)); (first | exact rfl | exact (List.append_nil _).symm); exact el_23; exact sz_51; exact zb_51; exact rfl; exact by_51; (first | exact SO.nil _ | assumption | (exact ⟨by simp, by simp, Nat.le_refl _, by simp⟩)); (first | exact (fun _ => rfl) | (intro _; exact s.at_ (by rw [wI_length]; omega))); (first | (apply RdN.own; (focus ((repeat constructor); done)); (focus ((repeat (first | exact rfl | constructor)); done))) | (apply RdN.view; exact hall)); (first | exact rfl | exact ones_flat (fun _ => rfl) _); (first | omega | (simp; omega) | (simp; done)); (first | omega | (simp; omega) | (simp; done)); intro rk12 sk12 ck12 ok12) | (apply s_append_b; exact rfl; exact rfl; (focus ((repeat constructor); done)); (first | exact rfl | exact (List.append_nil _).symm); exact el_23; exact sz_51; exact zb_51; exact rfl; exact by_51; (first | exact SO.nil _ | assumption | (exact ⟨by simp, by simp, Nat.le_refl _, by simp⟩)); (first | exact (fun _ => rfl) | (intro _; exact s.at_ (by rw [wI_length]; omega))); (first | (apply RdN.own; (focus ((repeat constructor); done)); (focus ((repeat (first | exact rfl | constructor)); done))) | (apply RdN.view; exact hall)); (first | exact rfl | exact ones_flat (fun _ => rfl) _); (first | omega | (simp; omega) | (simp; done)); (first | omega | (simp; omega) | (simp; done)); intro rk12 sk12 ck12 ok12) | (apply s_append_n; exact rfl; exact rfl; (focus ((repeat constructor); done)); exact el_23; exact sz_51; exact zb_51; exact rfl; exact by_51; (first | exact (fun _ => rfl) | (intro _; exact s.at_ (by rw [wI_length]; omega))); (first | (apply RdN.own; (focus ((repeat constructor); done)); (focus ((repeat (first | exact rfl | constructor)); done))) | (apply RdN.view; exact hall)); (first | exact rfl | exact ones_flat (fun _ => rfl) _); (first | omega | (simp; omega) | (simp; done)); (first | omega | (simp; omega) | (simp; done)); intro rk12 sk12 ck12 ok12)); (apply ol_as; exact rfl; exact rfl); (apply ol_nil))
      | (refine cw_region_id 2 ?_; (apply ol_mv; exact rfl; exact rfl); (apply ol_val; exact rfl; apply stp_pur; apply s_len; exact rfl; exact el_23); (apply ol_val; exact rfl; apply stp_cmp; apply s_eql; exact rfl; exact rfl; all_goals (intro hc15; try (exfalso; (first | exact hc15 rfl | omega)))); all_goals (apply ol_nil))
      | (refine cw_region_id 3 ?_; (apply ol_as; exact rfl; exact rfl); (apply ol_nil))
      | (apply cw_cond_true; exact rfl; (first | exact rfl | assumption))
      | (apply cw_cond_false; exact rfl; (first | exact rfl | assumption))
      | apply cw_skip
      | apply cw_ret
      | apply cw_block
      | apply cw_exit
    refine ends [] (RVal.tmp rfl RVal.nil) Pick.nil ?_
    rfl
  · have hNpos : 0 < N := Nat.pos_of_ne_zero fun h => h0 (by rw [← hk2.2, h, nd_zero])
    rw [tx0_txt hNpos]
    have hlenN := tx0_len (b := d) (by omega) hN
    have e0 : (⟨#[]⟩ : ByteArray) = strOf [] := strE
    repeat' first
      | apply cw_seq
      | (refine cw_region_id 0 ?_; (apply ol_val; exact rfl; first | (apply s_boxN; exact rfl; intro bk2) | (apply s_box1; exact rfl; exact rfl; intro bk2)); (apply ol_as; exact rfl; exact rfl); (apply ol_nil))
      | (refine cw_region_id 1 ?_; (apply ol_val; exact rfl; apply s_buildSl; exact rfl; exact el_23; exact sz_51; exact zb_51; (focus ((repeat constructor); done)); exact rfl; exact rfl; (exact Nat.le_of_ble_eq_true rfl); (focus ((repeat constructor); done)); (focus ((repeat (first | exact rfl | constructor)); done)); intro bk9); (apply ol_fa; exact rfl; exact rfl; exact fd_25_0; (first | exact Nat.zero_add _ | exact Nat.add_zero _ | exact rfl)); (apply ol_ld; exact rfl; exact rfl; exact rfl; (apply RdN.own; (focus ((repeat constructor); done)); exact GetN.cons rfl GetN.nil)); (apply ol_val; exact rfl; first | (apply s_append_e; exact rfl; exact rfl; (focus ((repeat constructor); done)); exact el_23; exact sz_51; exact zb_51; exact rfl; exact by_51; (first | exact (fun _ => rfl) | (intro _; exact s.at_ (by rw [wI_length]; omega))); (first | (apply RdN.own; (focus ((repeat constructor); done)); (focus ((repeat (first | exact rfl | constructor)); done))) | (apply RdN.view; exact hall)); (first | exact rfl | exact ones_flat (fun _ => rfl) _); (first | omega | (simp; omega) | (simp; done)); (first | omega | (simp; omega) | (simp; done)); intro rk12 sk12 ck12 ok12) | (apply s_append_r; exact rfl; exact rfl; (focus ((repeat constructor); done)); (first | exact rfl | exact (List.append_nil _).symm); exact el_23; exact sz_51; exact zb_51; exact rfl; exact by_51; (first | exact SO.nil _ | assumption | (exact ⟨by simp, by simp, Nat.le_refl _, by simp⟩)); (first | exact (fun _ => rfl) | (intro _; exact s.at_ (by rw [wI_length]; omega))); (first | (apply RdN.own; (focus ((repeat constructor); done)); (focus ((repeat (first | exact rfl | constructor)); done))) | (apply RdN.view; exact hall)); (first | exact rfl | exact ones_flat (fun _ => rfl) _); (first | omega | (simp; omega) | (simp; done)); (first | omega | (simp; omega) | (simp; done)); intro rk12 sk12 ck12 ok12) | (apply s_append_b; exact rfl; exact rfl; (focus ((repeat constructor); done)); (first | exact rfl | exact (List.append_nil _).symm); exact el_23; exact sz_51; exact zb_51; exact rfl; exact by_51; (first | exact SO.nil _ | assumption | (exact ⟨by simp, by simp, Nat.le_refl _, by simp⟩)); (first | exact (fun _ => rfl) | (intro _; exact s.at_ (by rw [wI_length]; omega))); (first | (apply RdN.own; (focus ((repeat constructor); done)); (focus ((repeat (first | exact rfl | constructor)); done))) | (apply RdN.view; exact hall)); (first | exact rfl | exact ones_flat (fun _ => rfl) _); (first | omega | (simp; omega) | (simp; done)); (first | omega | (simp; omega) | (simp; done)); intro rk12 sk12 ck12 ok12) | (apply s_append_n; exact rfl; exact rfl; (focus ((repeat constructor); done)); exact el_23; exact sz_51; exact zb_51; exact rfl; exact by_51; (first | exact (fun _ => rfl) | (intro _; exact s.at_ (by rw [wI_length]; omega))); (first | (apply RdN.own; (focus ((repeat constructor); done)); (focus ((repeat (first | exact rfl | constructor)); done))) | (apply RdN.view; exact hall)); (first | exact rfl | exact ones_flat (fun _ => rfl) _); (first | omega | (simp; omega) | (simp; done)); (first | omega | (simp; omega) | (simp; done)); intro rk12 sk12 ck12 ok12)); (apply ol_as; exact rfl; exact rfl); (apply ol_nil))
      | (refine cw_region_id 2 ?_; (apply ol_mv; exact rfl; exact rfl); (apply ol_val; exact rfl; apply stp_pur; apply s_len; exact rfl; exact el_23); (apply ol_val; exact rfl; apply stp_cmp; apply s_eql; exact rfl; exact rfl; all_goals (intro hc15; try (exfalso; (first | exact hc15 rfl | omega)))); all_goals (apply ol_nil))
      | (refine cw_region_id 4 ?_; (apply ol_as; exact rfl; exact rfl); (apply ol_nil))
      | (apply cw_cond_true; exact rfl; (first | exact rfl | assumption))
      | (apply cw_cond_false; exact rfl; (first | exact rfl | assumption))
      | apply cw_skip
      | apply cw_ret
      | apply cw_block
      | apply cw_exit
    refine cw_loopK (σ := YSt) [1] (by (repeat (first | exact Keep.nil | (apply Keep.cons; exact rfl)))) (fun s => [(5, .slice (base s.r s.A) (nd W s.Q) s.c), (6, .string (strOf s.X))]) (fun _ => M) (fun s => [⟨s.r, flat (eK .u32) (wI (nd W s.Q) s.Q) ++ s.sp, 51⟩, ⟨some bk2, [.slice a k c], 25⟩]) (fun s => (nd W s.Q ≤ 64 ∧ tx0 d s.Q ++ s.X = tx0 d N) ∧ SO s.r (nd W s.Q) s.c (flat (eK .u32) (wI (nd W s.Q) s.Q)) s.sp 1) (fun s => s.Q) ⟨N, rk12, none, ck12, sk12, []⟩ (by dsimp only; rw [hk2.2, ← e0]; (repeat (first | exact trivial | refine And.intro rfl ?_))) (View.le.refl _) (by dsimp only; rw [hk2.2]; (repeat (first | exact Pick.nil | (apply Pick.cons; (focus ((repeat (first | exact Spl.here | apply Spl.there)); done))) | exact Pick.refl))) ⟨⟨by dsimp only; omega, by dsimp only; rw [List.append_nil]⟩, by dsimp only; rw [hk2.2]; exact ok12⟩ ?_
    rintro ⟨Q, r, A, cp, sp, X⟩ ⟨⟨hQ64, hX⟩, so⟩
    dsimp only at hQ64 hX so
    dsimp only
    have hXl : X.length ≤ 4096 := by
      have h1 := congrArg List.length hX
      rw [List.length_append] at h1
      omega
    by_cases hK : nd W Q = 0
    · have hQ0 : Q = 0 := (nd_zero_iff (by decide)).1 hK
      rw [hQ0, tx0_zero, List.nil_append] at hX
      rw [← hX]
      repeat' first
        | apply cw_seq
        | (refine cw_region_id 5 ?_; (apply ol_mv; exact rfl; exact rfl); (apply ol_val; exact rfl; apply stp_pur; apply s_len; exact rfl; exact el_23); (apply ol_val; exact rfl; apply stp_cmp; apply s_gtr; exact rfl; exact rfl; all_goals (intro hc18; try (exfalso; (first | exact hc18 rfl | omega)))); all_goals (apply ol_nil))
        | (refine cw_region_id 9 ?_; (apply ol_mv; exact rfl; exact rfl); (apply ol_as; exact rfl; exact rfl); (apply ol_nil))
        | (apply cw_cond_true; exact rfl; (first | exact rfl | assumption))
        | (apply cw_cond_false; exact rfl; (first | exact rfl | assumption))
        | apply cw_skip
        | apply cw_ret
        | apply cw_block
        | apply cw_exit
      refine ends [] (RVal.tmp rfl RVal.nil) Pick.nil ?_
      rfl
    · have hQ0 : 0 < Q := Nat.pos_of_ne_zero fun h => hK ((nd_zero_iff (by decide)).2 h)
      rw [tx0_step (by omega) hQ0, List.append_assoc] at hX
      have hdec : Q / d < Q := Nat.div_lt_self hQ0 (by omega)
      have hnd1 := nd_mono (b := W) (by decide) (Nat.le_of_lt hdec)
      have kd : ∀ (w' : World), OB.ok ⟨r, flat (eK .u32) (wI (nd W Q) Q) ++ sp, 51⟩ w' → FnC Tryd.prog 37 [.slice (base r A) (nd W Q) cp, .int .u64 d] w' (fun v new => ∃ u, v = .tuple #[u, .int .u64 (Q % d : Nat)] ∧ WR (nd W (Q / d)) (Q / d) u new) := fun w' ho =>
        divide_spec (View.le.refl _) (d := d) (c := cp) (by omega) (nd_lt (by decide) Q) (by omega) (SlA.ownW (A := A) ho so)
      unfold WR at kd
      have kg := fun (w' : World) => digit_spec w' (d := Q % d) (Nat.lt_of_lt_of_le (Nat.mod_lt _ (by omega)) (by omega))
      generalize Q % d = R at *
      repeat' first
        | apply cw_seq
        | (refine cw_region_id 5 ?_; (apply ol_mv; exact rfl; exact rfl); (apply ol_val; exact rfl; apply stp_pur; apply s_len; exact rfl; exact el_23); (apply ol_val; exact rfl; apply stp_cmp; apply s_gtr; exact rfl; exact rfl; all_goals (intro hc18; try (exfalso; (first | exact hc18 rfl | omega)))); all_goals (apply ol_nil))
        | (refine cw_region_id 6 ?_; (apply ol_mv; exact rfl; exact rfl); (apply ol_mv; exact rfl; exact rfl); (apply ol_val; exact rfl; apply s_call; exact rfl; exact gf_37; (intro w' hw'; exact kd w' (hw'.ok_ (by (repeat (first | exact Has.here | apply Has.there))))); ((intro v new h; obtain ⟨_, rfl, r1, A1, cap1, sp1, rfl, rfl, so1⟩ := h))); (apply ol_mv; exact rfl; exact rfl); (apply ol_ex; exact rfl; exact rfl; exact rfl); (apply ol_ex; exact rfl; exact rfl; exact rfl); (apply ol_as; exact rfl; exact rfl); (apply ol_as; exact rfl; exact rfl); (apply ol_nil))
        | (refine cw_region_id 7 ?_; (apply ol_mv; exact rfl; exact rfl); (apply ol_val; exact rfl; apply s_callv; exact rfl; exact gf_38; (intro w' hw'; exact kg w')); (apply ol_mv; exact rfl; exact rfl); (apply ol_val; exact rfl; apply stp_pur; apply s_cat; exact rfl; exact rfl; (first | omega | (rw [List.length_cons, List.length_nil]; omega))); (apply ol_as; exact rfl; exact rfl); (apply ol_nil))
        | (refine cw_region_id 8 ?_; (apply ol_mv; exact rfl; exact rfl); (apply ol_as; exact rfl; exact rfl); (apply ol_nil))
        | (apply cw_cond_true; exact rfl; (first | exact rfl | assumption))
        | (apply cw_cond_false; exact rfl; (first | exact rfl | assumption))
        | apply cw_skip
        | apply cw_ret
        | apply cw_block
        | apply cw_exit
      exact ⟨⟨Q / d, r1, A1, cap1, sp1, [chr R] ++ X⟩, ⟨by (repeat (first | exact trivial | refine And.intro rfl ?_)), View.le.refl _, by (repeat (first | exact Pick.nil | (apply Pick.cons; (focus ((repeat (first | exact Spl.here | apply Spl.there)); done))) | exact Pick.refl)), ⟨⟨by dsimp only; omega, hX⟩, so1⟩, hdec⟩⟩
end Go.Proofs.YtjaeblkgjbncmaaDoor
