/-
  Some texts joined.
-/
import Derived.Test.YtkbbbflojebfgaaDoorWA
import Derived.Test.YtkbbbflojebfgaaDoorFw18
import Derived.Test.YtkbbbflojebfgaaDoorTy
import Derived.Test.YtkbbbflojebfgaaDoorFw31
/-
  The walks of tagged digests.
-/
namespace Go.Proofs.YtkbbbflojebfgaaDoor
set_option maxRecDepth 20000
set_option linter.unusedSimpArgs false
set_option linter.unusedVariables false
open Go Go.Fw
def tagd (t p : List Int) : List Int := sha (sha t ++ sha t ++ p)
theorem tagd_length (t p : List Int) : (tagd t p).length = 32 := by unfold tagd; exact sha_length _
theorem isB_tagd (t p : List Int) : isB (tagd t p) := isB_sha _
attribute [local irreducible] CW OL OD FX Stp FnC Ret sha strOf be8
set_option maxHeartbeats 800000

theorem SlA.ownK {w : World} {r : Option Nat} {A : Option Addr} {k : IntKind} {xs : List Int} {sp : List Value} {T : TypeId} (hok : OB.ok ⟨r, flat (eK k) xs ++ sp, T⟩ w) (hn : r = none → xs = []) : SlA (View.of w) (eK k) 1 (base r A) xs (r.getD 0) 0 := SlA.own (eK_length k) hok hn
theorem join_spec {M : View} {w : World} (hM : View.le M (View.of w)) {p h : List Int} {n c : Nat} (hn : p.length = n) (hl : n ≤ 1073741824) (hh : h.length = 32) {a : Option Addr} {b o : Nat} (s : SlA M (eK .u8) 1 a p b o) :
    FnC Tryd.prog 36 [.slice a n c, .agg (flat (eK .u8) h).toArray] w (RowRes (eK .u8) 1 5 (p ++ h)) := by
  subst hn
  refine enterF (M := M) Tryd.func36 rfl rfl rfl rfl hM ?_
  repeat' first
    | apply cw_seq
    | (refine cw_region_id 0 ?_; (apply ol_val; exact rfl; first | (apply s_boxN; exact rfl; intro bk3) | (apply s_box1; exact rfl; exact rfl; intro bk3)); (apply ol_as; exact rfl; exact rfl); (apply ol_nil))
    | (refine cw_region_id 1 ?_; (apply ol_val; exact rfl; apply s_buildSl; exact rfl; exact el_38; exact sz_5; exact zb_5; (focus ((repeat constructor); done)); exact rfl; exact rfl; (exact Nat.le_of_ble_eq_true rfl); (focus ((repeat constructor); done)); (focus ((repeat (first | exact rfl | constructor)); done)); intro bk7); (apply ol_mv; exact rfl; exact rfl); (apply ol_val; exact rfl; first | (apply s_append_e; exact rfl; exact rfl; (focus ((repeat constructor); done)); exact el_38; exact sz_5; exact zb_5; exact rfl; exact by_5; (first | exact (fun _ => rfl) | (intro _; exact s.at_ (by omega))); (first | (apply RdN.own; (focus ((repeat constructor); done)); (focus ((repeat (first | exact rfl | constructor)); done))) | (apply RdN.view; exact SlA.all (eK_length .u8) s)); (first | exact rfl | exact flatK_ones); (first | omega | (simp; omega) | (simp; done)); (first | omega | (simp; omega) | (simp; done)); intro rk9 sk9 ck9 ok9) | (apply s_append_r; exact rfl; exact rfl; (focus ((repeat constructor); done)); (first | exact rfl | exact (List.append_nil _).symm); exact el_38; exact sz_5; exact zb_5; exact rfl; exact by_5; (first | exact SO.nil _ | assumption | (exact ⟨by simp, by simp, Nat.le_refl _, by simp⟩)); (first | exact (fun _ => rfl) | (intro _; exact s.at_ (by omega))); (first | (apply RdN.own; (focus ((repeat constructor); done)); (focus ((repeat (first | exact rfl | constructor)); done))) | (apply RdN.view; exact SlA.all (eK_length .u8) s)); (first | exact rfl | exact flatK_ones); (first | omega | (simp; omega) | (simp; done)); (first | omega | (simp; omega) | (simp; done)); intro rk9 sk9 ck9 ok9) | (apply s_append_b; exact rfl; exact rfl; (focus ((repeat constructor); done)); (first | exact rfl | exact (List.append_nil _).symm); exact el_38; exact sz_5; exact zb_5; exact rfl; exact by_5; (first | exact SO.nil _ | assumption | (exact ⟨by simp, by simp, Nat.le_refl _, by simp⟩)); (first | exact (fun _ => rfl) | (intro _; exact s.at_ (by omega))); (first | (apply RdN.own; (focus ((repeat constructor); done)); (focus ((repeat (first | exact rfl | constructor)); done))) | (apply RdN.view; exact SlA.all (eK_length .u8) s)); (first | exact rfl | exact flatK_ones); (first | omega | (simp; omega) | (simp; done)); (first | omega | (simp; omega) | (simp; done)); intro rk9 sk9 ck9 ok9) | (apply s_append_n; exact rfl; exact rfl; (focus ((repeat constructor); done)); exact el_38; exact sz_5; exact zb_5; exact rfl; exact by_5; (first | exact (fun _ => rfl) | (intro _; exact s.at_ (by omega))); (first | (apply RdN.own; (focus ((repeat constructor); done)); (focus ((repeat (first | exact rfl | constructor)); done))) | (apply RdN.view; exact SlA.all (eK_length .u8) s)); (first | exact rfl | exact flatK_ones); (first | omega | (simp; omega) | (simp; done)); (first | omega | (simp; omega) | (simp; done)); intro rk9 sk9 ck9 ok9)); (apply ol_as; exact rfl; exact rfl); (apply ol_nil))
    | (refine cw_region_id 2 ?_; (apply ol_as; exact rfl; exact rfl); (apply ol_nil))
    | (apply cw_cond_true; exact rfl; (first | exact rfl | assumption))
    | (apply cw_cond_false; exact rfl; (first | exact rfl | assumption))
    | apply cw_skip
    | apply cw_ret
    | apply cw_block
    | apply cw_exit
  refine cw_loopK (σ := RSt) [3] (by (repeat (first | exact Keep.nil | (apply Keep.cons; exact rfl)))) (fun s => [(5, .slice (base s.r none) (p.length + s.k) s.c), (6, .int .i64 s.k)]) (fun _ => M) (fun s => [⟨some bk3, flat (eK .u8) h, 23⟩, ⟨s.r, flat (eK .u8) (p ++ h.take s.k) ++ s.sp, 5⟩]) (fun s => s.k ≤ 32 ∧ SO s.r (p.length + s.k) s.c (flat (eK .u8) (p ++ h.take s.k)) s.sp 1) (fun s => 32 - s.k) ⟨0, rk9, ck9, sk9⟩ (by dsimp only [Nat.add_zero]; (repeat (first | exact trivial | refine And.intro rfl ?_))) (View.le.refl _) (by dsimp only; rw [List.take_zero, List.append_nil]; (repeat (first | exact Pick.nil | (apply Pick.cons; (focus ((repeat (first | exact Spl.here | apply Spl.there)); done))) | exact Pick.refl | exact Pick.skip1 | exact Pick.skip2))) ⟨by dsimp only; omega, by dsimp only; rw [List.take_zero, List.append_nil]; exact ok9⟩ ?_
  clear ok9
  rintro ⟨k, r, c', sp⟩ ⟨hk, so⟩
  dsimp only at hk so
  dsimp only
  by_cases hk' : k < 32
  · have hst : flat (eK .u8) (p ++ h.take (k + 1)) = flat (eK .u8) (p ++ h.take k) ++ [.int .u8 (h.getD k 0)] := by
      rw [List.take_succ_eq_append_getElem (show k < h.length by omega), ← List.append_assoc, flat_append, flat_one]
      simp [List.getD, List.getElem?_eq_getElem (show k < h.length by omega)]
    repeat' first
      | apply cw_seq
      | (refine cw_region_id 3 ?_; (apply ol_mv; exact rfl; exact rfl); (apply ol_val; exact rfl; apply stp_cmp; apply s_lss; exact rfl; exact rfl; all_goals (intro hc11; try (exfalso; (first | exact hc11 rfl | omega)))); all_goals (apply ol_nil))
      | (refine cw_region_id 5 ?_; (apply ol_mv; exact rfl; exact rfl); (apply ol_mv; exact rfl; exact rfl); (apply ol_val; exact rfl; apply stp_pur; first | (apply s_indexAK; exact rfl; exact rfl; exact ar_23; exact sz_5; omega) | (apply s_indexAO; exact rfl; exact rfl; exact ar_23; exact sz_5; omega)); (apply ol_ld; exact rfl; exact rfl; exact rfl; (first | (apply RdN.own; (focus ((repeat constructor); done)); (first | exact GetN.cons rfl GetN.nil | (apply getN_ints_app; (first | omega | (simp; omega) | (simp; done))) | (apply getN_ints; (first | omega | (simp; omega) | (simp; done))))) | (apply RdN.own; (repeat (first | exact Has.here | apply Has.there)); (apply getNK0; omega)))); (apply ol_val; exact rfl; apply s_buildSl; exact rfl; exact el_38; exact sz_5; exact zb_5; (focus ((repeat constructor); done)); exact rfl; exact rfl; (exact Nat.le_of_ble_eq_true rfl); (focus ((repeat constructor); done)); (focus ((repeat (first | exact rfl | constructor)); done)); intro bk18); (apply ol_val; exact rfl; first | (apply s_append_e; exact rfl; exact rfl; (focus ((repeat constructor); done)); exact el_38; exact sz_5; exact zb_5; exact rfl; exact by_5; (first | exact (fun _ => rfl)); (first | (apply RdN.own; (focus ((repeat constructor); done)); (focus ((repeat (first | exact rfl | constructor)); done)))); (first | exact rfl); (first | omega | (simp; omega) | (simp; done)); (first | omega | (simp; omega) | (simp; done)); intro rk19 sk19 ck19 ok19) | (apply s_append_r; exact rfl; exact rfl; (focus ((repeat constructor); done)); (first | exact rfl | exact (List.append_nil _).symm); exact el_38; exact sz_5; exact zb_5; exact rfl; exact by_5; (first | exact SO.nil _ | assumption | (exact ⟨by simp, by simp, Nat.le_refl _, by simp⟩)); (first | exact (fun _ => rfl)); (first | (apply RdN.own; (focus ((repeat constructor); done)); (focus ((repeat (first | exact rfl | constructor)); done)))); (first | exact rfl); (first | omega | (simp; omega) | (simp; done)); (first | omega | (simp; omega) | (simp; done)); intro rk19 sk19 ck19 ok19) | (apply s_append_b; exact rfl; exact rfl; (focus ((repeat constructor); done)); (first | exact rfl | exact (List.append_nil _).symm); exact el_38; exact sz_5; exact zb_5; exact rfl; exact by_5; (first | exact SO.nil _ | assumption | (exact ⟨by simp, by simp, Nat.le_refl _, by simp⟩)); (first | exact (fun _ => rfl)); (first | (apply RdN.own; (focus ((repeat constructor); done)); (focus ((repeat (first | exact rfl | constructor)); done)))); (first | exact rfl); (first | omega | (simp; omega) | (simp; done)); (first | omega | (simp; omega) | (simp; done)); intro rk19 sk19 ck19 ok19) | (apply s_append_n; exact rfl; exact rfl; (focus ((repeat constructor); done)); exact el_38; exact sz_5; exact zb_5; exact rfl; exact by_5; (first | exact (fun _ => rfl)); (first | (apply RdN.own; (focus ((repeat constructor); done)); (focus ((repeat (first | exact rfl | constructor)); done)))); (first | exact rfl); (first | omega | (simp; omega) | (simp; done)); (first | omega | (simp; omega) | (simp; done)); intro rk19 sk19 ck19 ok19)); (apply ol_as; exact rfl; exact rfl); (apply ol_nil))
      | (refine cw_region_id 4 ?_; (apply ol_mv; exact rfl; exact rfl); (apply ol_val; exact rfl; apply stp_pur; apply s_add64; exact rfl; exact rfl; omega); (apply ol_as; exact rfl; exact rfl); (apply ol_nil))
      | (refine cw_region_id 6 ?_; (apply ol_mv; exact rfl; exact rfl); (apply ol_as; exact rfl; exact rfl); (apply ol_nil))
      | (apply cw_cond_true; exact rfl; (first | exact rfl | assumption))
      | (apply cw_cond_false; exact rfl; (first | exact rfl | assumption))
      | apply cw_skip
      | apply cw_ret
      | apply cw_block
      | apply cw_exit
    refine ⟨⟨k + 1, rk19, ck19, sk19⟩, ⟨?_, View.le.refl _, ?_, ⟨hk', ?_⟩, by dsimp only; omega⟩⟩
    · (repeat (first | exact trivial | refine And.intro rfl ?_))
    · dsimp only
      rw [hst]
      (repeat (first | exact Pick.nil | (apply Pick.cons; (focus ((repeat (first | exact Spl.here | apply Spl.there)); done))) | exact Pick.refl | exact Pick.skip1 | exact Pick.skip2))
    · dsimp only
      rw [hst]
      exact ok19
  · have : k = 32 := by omega
    subst this
    rw [List.take_of_length_le (by omega)] at so ⊢
    repeat' first
      | apply cw_seq
      | (refine cw_region_id 3 ?_; (apply ol_mv; exact rfl; exact rfl); (apply ol_val; exact rfl; apply stp_cmp; apply s_lss; exact rfl; exact rfl; all_goals (intro hc11; try (exfalso; (first | exact hc11 rfl | omega)))); all_goals (apply ol_nil))
      | (refine cw_region_id 5 ?_; (apply ol_mv; exact rfl; exact rfl); (apply ol_mv; exact rfl; exact rfl); (apply ol_val; exact rfl; apply stp_pur; first | (apply s_indexAK; exact rfl; exact rfl; exact ar_23; exact sz_5; omega) | (apply s_indexAO; exact rfl; exact rfl; exact ar_23; exact sz_5; omega)); (apply ol_ld; exact rfl; exact rfl; exact rfl; (apply RdN.own; (focus ((repeat constructor); done)); (first | exact GetN.cons rfl GetN.nil | (apply getN_ints_app; (first | omega | (simp; omega) | (simp; done))) | (apply getN_ints; (first | omega | (simp; omega) | (simp; done)))))); (apply ol_val; exact rfl; apply s_buildSl; exact rfl; exact el_38; exact sz_5; exact zb_5; (focus ((repeat constructor); done)); exact rfl; exact rfl; (exact Nat.le_of_ble_eq_true rfl); (focus ((repeat constructor); done)); (focus ((repeat (first | exact rfl | constructor)); done)); intro bk18); (apply ol_val; exact rfl; first | (apply s_append_e; exact rfl; exact rfl; (focus ((repeat constructor); done)); exact el_38; exact sz_5; exact zb_5; exact rfl; exact by_5; (first | exact (fun _ => rfl)); (first | (apply RdN.own; (focus ((repeat constructor); done)); (focus ((repeat (first | exact rfl | constructor)); done)))); (first | exact rfl); (first | omega | (simp; omega) | (simp; done)); (first | omega | (simp; omega) | (simp; done)); intro rk19 sk19 ck19 ok19) | (apply s_append_r; exact rfl; exact rfl; (focus ((repeat constructor); done)); (first | exact rfl | exact (List.append_nil _).symm); exact el_38; exact sz_5; exact zb_5; exact rfl; exact by_5; (first | exact SO.nil _ | assumption | (exact ⟨by simp, by simp, Nat.le_refl _, by simp⟩)); (first | exact (fun _ => rfl)); (first | (apply RdN.own; (focus ((repeat constructor); done)); (focus ((repeat (first | exact rfl | constructor)); done)))); (first | exact rfl); (first | omega | (simp; omega) | (simp; done)); (first | omega | (simp; omega) | (simp; done)); intro rk19 sk19 ck19 ok19) | (apply s_append_b; exact rfl; exact rfl; (focus ((repeat constructor); done)); (first | exact rfl | exact (List.append_nil _).symm); exact el_38; exact sz_5; exact zb_5; exact rfl; exact by_5; (first | exact SO.nil _ | assumption | (exact ⟨by simp, by simp, Nat.le_refl _, by simp⟩)); (first | exact (fun _ => rfl)); (first | (apply RdN.own; (focus ((repeat constructor); done)); (focus ((repeat (first | exact rfl | constructor)); done)))); (first | exact rfl); (first | omega | (simp; omega) | (simp; done)); (first | omega | (simp; omega) | (simp; done)); intro rk19 sk19 ck19 ok19) | (apply s_append_n; exact rfl; exact rfl; (focus ((repeat constructor); done)); exact el_38; exact sz_5; exact zb_5; exact rfl; exact by_5; (first | exact (fun _ => rfl)); (first | (apply RdN.own; (focus ((repeat constructor); done)); (focus ((repeat (first | exact rfl | constructor)); done)))); (first | exact rfl); (first | omega | (simp; omega) | (simp; done)); (first | omega | (simp; omega) | (simp; done)); intro rk19 sk19 ck19 ok19)); (apply ol_as; exact rfl; exact rfl); (apply ol_nil))
      | (refine cw_region_id 4 ?_; (apply ol_mv; exact rfl; exact rfl); (apply ol_val; exact rfl; apply stp_pur; apply s_add64; exact rfl; exact rfl; omega); (apply ol_as; exact rfl; exact rfl); (apply ol_nil))
      | (refine cw_region_id 6 ?_; (apply ol_mv; exact rfl; exact rfl); (apply ol_as; exact rfl; exact rfl); (apply ol_nil))
      | (apply cw_cond_true; exact rfl; (first | exact rfl | assumption))
      | (apply cw_cond_false; exact rfl; (first | exact rfl | assumption))
      | apply cw_skip
      | apply cw_ret
      | apply cw_block
      | apply cw_exit
    refine ends [⟨r, flat (eK .u8) (p ++ h) ++ sp, 5⟩] (RVal.tmp rfl RVal.nil) (by (repeat (first | exact Pick.nil | (apply Pick.cons; (focus ((repeat (first | exact Spl.here | apply Spl.there)); done))) | exact Pick.refl | exact Pick.skip1 | exact Pick.skip2))) ?_
    refine ⟨r, none, c', sp, ?_, rfl, ?_⟩
    · rw [List.length_append, hh]; rfl
    · rw [List.length_append, hh]; exact so

theorem tagged_spec {M : View} {w : World} (hM : View.le M (View.of w)) (hL : Laid M) {t : ByteArray} (ht : 1 ≤ t.size ∧ t.size ≤ 100) {p : List Int} {n c : Nat} (hn : p.length = n) (hl : n ≤ 536870912) (hb : isB p) {a : Option Addr} {b o : Nat} (s : SlA M (eK .u8) 1 a p b o) :
    FnC Tryd.prog 21 [.string t, .slice a n c] w (fun v _ => v = .tuple #[.agg (flat (eK .u8) (tagd (intsB t) p)).toArray, .int .i64 0]) := by
  subst hn
  refine enterF (M := M) Tryd.func21 rfl rfl rfl rfl hM ?_
  have hT := sha_length (intsB t)
  have hTb := isB_sha (intsB t)
  have hil := intsB_length t
  unfold tagd
  have hsum : ∀ (w' : World) {r : Option Nat} {A : Option Addr} {c : Nat} {sp : List Value}, View.le M (View.of w') → OB.ok ⟨r, flat (eK .u8) (intsB t) ++ sp, 5⟩ w' → (r = none → intsB t = []) → FnC Tryd.prog 31 [.slice (base r A) t.size c] w' (fun v _ => v = .agg (flat (eK .u8) (sha (intsB t))).toArray) := fun w' r A c sp h1 h2 h3 =>
    sum_spec (View.le.refl (View.of w')) (hL.mono h1) hil (by omega) (isB.of (intsB_b t)) (SlA.ownK h2 h3)
  generalize sha (intsB t) = T at *
  have hR := sha_length (T ++ T ++ p)
  have hsum2 : ∀ (w' : World) {r : Option Nat} {A : Option Addr} {m c : Nat} {sp : List Value}, View.le M (View.of w') → OB.ok ⟨r, flat (eK .u8) T ++ flat (eK .u8) T ++ flat (eK .u8) p ++ sp, 5⟩ w' → m = T.length + T.length + p.length → (r = none → False) → FnC Tryd.prog 31 [.slice (base r A) m c] w' (fun v _ => v = .agg (flat (eK .u8) (sha (T ++ T ++ p))).toArray) := fun w' r A m c sp h1 h2 h3 h4 => by
    rw [← flat_append, ← flat_append] at h2
    exact sum_spec (View.le.refl (View.of w')) (hL.mono h1) (by rw [List.length_append, List.length_append]; exact h3.symm) (by omega) ((hTb.append hTb).append hb) (SlA.ownK h2 (fun h => (h4 h).elim))
  generalize sha (T ++ T ++ p) = R at *
  repeat' first
    | apply cw_seq
    | (refine cw_region_id 0 ?_; (apply ol_val; exact rfl; apply s_allocK; exact zk_23; intro bk4); (apply ol_as; exact rfl; exact rfl); (apply ol_nil))
    | (refine cw_region_id 1 ?_; (apply ol_mv; exact rfl; exact rfl); (apply ol_val; exact rfl; apply stp_pur; apply s_len_string; exact rfl; exact rfl; exact rfl); (apply ol_val; exact rfl; apply stp_cmp; apply s_lss; exact rfl; exact rfl; all_goals (intro hc9; try (exfalso; (first | exact hc9 rfl | omega)))); all_goals (apply ol_mv; exact rfl; exact rfl); all_goals (first | (apply ol_gskip; exact rfl; exact rfl; (first | exact rfl | assumption); exact rfl) | (apply ol_gval; exact rfl; exact rfl; exact rfl; (first | exact rfl | assumption); apply stp_pur; apply s_move; exact rfl)); all_goals (first | (apply ol_gskip; exact rfl; exact rfl; (first | exact rfl | assumption); exact rfl) | (apply ol_gval; exact rfl; exact rfl; exact rfl; (first | exact rfl | assumption); apply stp_pur; apply s_len_string; exact rfl; exact rfl; exact rfl)); all_goals (first | (apply ol_gskip; exact rfl; exact rfl; (first | exact rfl | assumption); exact rfl) | (apply ol_gval; exact rfl; exact rfl; exact rfl; (first | exact rfl | assumption); apply stp_cmp; apply s_gtr; exact rfl; exact rfl; all_goals (intro hc13; try (exfalso; (first | exact hc13 rfl | omega))))); all_goals (apply ol_val; exact rfl; apply stp_pur; first | (apply s_pick_t; exact rfl; (first | exact rfl | assumption); exact rfl) | (apply s_pick_f; exact rfl; (first | exact rfl | assumption); exact rfl)); all_goals (apply ol_nil))
    | (refine cw_region_id 2 ?_; (apply ol_val; exact rfl; apply stp_pur; apply s_buildZ; exact ar_23; exact sz_5; exact zk_23); (apply ol_eff; apply s_storeK; exact rfl; exact rfl; exact sz_23; (focus ((repeat constructor); done)); (first | assumption | (rw [List.length_replicate]) | exact rfl); (first | assumption | (rw [List.length_replicate]) | exact rfl)); (apply ol_as; exact rfl; exact rfl); (apply ol_nil))
    | (refine cw_region_id 3 ?_; (apply ol_mv; exact rfl; exact rfl); (apply ol_val; exact rfl; apply s_convSB; exact rfl; exact us_9; exact el_38; exact tdInt_eq ti_5; intro bk17 ck17 sk17 ok17); (apply ol_val; exact rfl; apply s_callv; exact rfl; exact gf_31; (intro w' hw'; (first | exact hsum w' hw'.le (hw'.ok_ (by (repeat (first | exact Has.here | apply Has.there)))) (fun h => by cases h) | exact hsum2 w' hw'.le (hw'.ok_ (by (repeat (first | exact Has.here | apply Has.there)))) (by omega) (fun h => by have := ok24.empty h; omega)))); (apply ol_val; exact rfl; apply s_allocK; exact zk_23; intro bk6); (apply ol_eff; apply s_storeK; exact rfl; exact rfl; exact sz_23; (focus ((repeat constructor); done)); (first | assumption | (rw [List.length_replicate]) | exact rfl); (first | assumption | (rw [List.length_replicate]) | exact rfl)); (apply ol_nil))
    | (refine cw_draw (id := 4) 9 (.mv 0 (.mv 2 (.mv 4 (.fx 1 (.fx 3 (.fx 5 (.fx 6 (.fx 7 (.mv 8 (PT.nil)))))))))) mixed (by kernel_rfl) ?_; (apply od_mv; exact rfl; exact rfl; apply s_sliceP; exact rfl; exact ar_23; exact sz_5; exact rfl; exact rfl; exact rfl; (intro h; first | exact rfl | cases h); (first | omega | (simp; omega) | (simp; done)); (first | omega | (simp; omega) | (simp; done)); (first | omega | (simp; omega) | (simp; done))); (apply od_mv; exact rfl; exact rfl; apply s_sliceP; exact rfl; exact ar_23; exact sz_5; exact rfl; exact rfl; exact rfl; (intro h; first | exact rfl | cases h); (first | omega | (simp; omega) | (simp; done)); (first | omega | (simp; omega) | (simp; done)); (first | omega | (simp; omega) | (simp; done))); (apply od_mv; exact rfl; exact rfl; apply s_move; exact rfl); (apply od_fx; (first | exact Wk.refl _ _ | (focus (apply Wk.mk; (first | exact View.le.refl _ | assumption | exact View.le.trans (by assumption) (by assumption)); (repeat constructor); done))); (apply fx_val; exact rfl; exact rfl; apply s_call; exact rfl; exact gf_32; (intro w' hw'; exact cloneB_spec (View.le.refl (View.of w')) hT (SlA.part0 (hw'.ok_ (by (repeat (first | exact Has.here | apply Has.there))))) (by omega)); ((intro v new h; obtain ⟨r1, A1, c1, s1, rfl, rfl, so1⟩ := h)))); (apply od_fx; (first | exact Wk.refl _ _ | (focus (apply Wk.mk; (first | exact View.le.refl _ | assumption | exact View.le.trans (by assumption) (by assumption)); (repeat constructor); done))); (apply fx_val; exact rfl; exact rfl; first | (apply s_append_e; exact rfl; exact rfl; (focus ((repeat constructor); done)); exact el_38; exact sz_5; exact zb_5; exact rfl; exact by_5; (first | exact (fun _ => rfl) | (intro _; exact s.at_ (by omega))); (first | (apply RdN.own; (focus ((repeat constructor); done)); (focus ((repeat (first | exact rfl | constructor)); done))) | (apply RdN.own; (repeat (first | exact Has.here | apply Has.there)); (apply getNK_all; omega)) | (apply RdN.view; exact SlA.all (eK_length .u8) s)); (first | exact rfl | exact flatK_ones); (first | omega | (simp; omega) | (simp; done)); (first | omega | (simp; omega) | (simp; done)); intro rk22 sk22 ck22 ok22) | (apply s_append_r; exact rfl; exact rfl; (focus ((repeat constructor); done)); (first | exact rfl | exact (List.append_nil _).symm); exact el_38; exact sz_5; exact zb_5; exact rfl; exact by_5; (first | exact SO.nil _ | assumption | (exact ⟨by simp, by simp, Nat.le_refl _, by simp⟩)); (first | exact (fun _ => rfl) | (intro _; exact s.at_ (by omega))); (first | (apply RdN.own; (focus ((repeat constructor); done)); (focus ((repeat (first | exact rfl | constructor)); done))) | (apply RdN.own; (repeat (first | exact Has.here | apply Has.there)); (apply getNK_all; omega)) | (apply RdN.view; exact SlA.all (eK_length .u8) s)); (first | exact rfl | exact flatK_ones); (first | omega | (simp; omega) | (simp; done)); (first | omega | (simp; omega) | (simp; done)); intro rk22 sk22 ck22 ok22) | (apply s_append_b; exact rfl; exact rfl; (focus ((repeat constructor); done)); (first | exact rfl | exact (List.append_nil _).symm); exact el_38; exact sz_5; exact zb_5; exact rfl; exact by_5; (first | exact SO.nil _ | assumption | (exact ⟨by simp, by simp, Nat.le_refl _, by simp⟩)); (first | exact (fun _ => rfl) | (intro _; exact s.at_ (by omega))); (first | (apply RdN.own; (focus ((repeat constructor); done)); (focus ((repeat (first | exact rfl | constructor)); done))) | (apply RdN.own; (repeat (first | exact Has.here | apply Has.there)); (apply getNK_all; omega)) | (apply RdN.view; exact SlA.all (eK_length .u8) s)); (first | exact rfl | exact flatK_ones); (first | omega | (simp; omega) | (simp; done)); (first | omega | (simp; omega) | (simp; done)); intro rk22 sk22 ck22 ok22) | (apply s_append_n; exact rfl; exact rfl; (focus ((repeat constructor); done)); exact el_38; exact sz_5; exact zb_5; exact rfl; exact by_5; (first | exact (fun _ => rfl) | (intro _; exact s.at_ (by omega))); (first | (apply RdN.own; (focus ((repeat constructor); done)); (focus ((repeat (first | exact rfl | constructor)); done))) | (apply RdN.own; (repeat (first | exact Has.here | apply Has.there)); (apply getNK_all; omega)) | (apply RdN.view; exact SlA.all (eK_length .u8) s)); (first | exact rfl | exact flatK_ones); (first | omega | (simp; omega) | (simp; done)); (first | omega | (simp; omega) | (simp; done)); intro rk22 sk22 ck22 ok22))); (apply od_fx; (first | exact Wk.refl _ _ | (focus (apply Wk.mk; (first | exact View.le.refl _ | assumption | exact View.le.trans (by assumption) (by assumption)); (repeat constructor); done))); (apply fx_val; exact rfl; exact rfl; first | (apply s_append_e; exact rfl; exact rfl; (focus ((repeat constructor); done)); exact el_38; exact sz_5; exact zb_5; exact rfl; exact by_5; (first | exact (fun _ => rfl) | (intro _; exact s.at_ (by omega))); (first | (apply RdN.own; (focus ((repeat constructor); done)); (focus ((repeat (first | exact rfl | constructor)); done))) | (apply RdN.own; (repeat (first | exact Has.here | apply Has.there)); (apply getNK_all; omega)) | (apply RdN.view; exact SlA.all (eK_length .u8) s)); (first | exact rfl | exact flatK_ones); (first | omega | (simp; omega) | (simp; done)); (first | omega | (simp; omega) | (simp; done)); intro rk24 sk24 ck24 ok24) | (apply s_append_r; exact rfl; exact rfl; (focus ((repeat constructor); done)); (first | exact rfl | exact (List.append_nil _).symm); exact el_38; exact sz_5; exact zb_5; exact rfl; exact by_5; (first | exact SO.nil _ | assumption | (exact ⟨by simp, by simp, Nat.le_refl _, by simp⟩)); (first | exact (fun _ => rfl) | (intro _; exact s.at_ (by omega))); (first | (apply RdN.own; (focus ((repeat constructor); done)); (focus ((repeat (first | exact rfl | constructor)); done))) | (apply RdN.own; (repeat (first | exact Has.here | apply Has.there)); (apply getNK_all; omega)) | (apply RdN.view; exact SlA.all (eK_length .u8) s)); (first | exact rfl | exact flatK_ones); (first | omega | (simp; omega) | (simp; done)); (first | omega | (simp; omega) | (simp; done)); intro rk24 sk24 ck24 ok24) | (apply s_append_b; exact rfl; exact rfl; (focus ((repeat constructor); done)); (first | exact rfl | exact (List.append_nil _).symm); exact el_38; exact sz_5; exact zb_5; exact rfl; exact by_5; (first | exact SO.nil _ | assumption | (exact ⟨by simp, by simp, Nat.le_refl _, by simp⟩)); (first | exact (fun _ => rfl) | (intro _; exact s.at_ (by omega))); (first | (apply RdN.own; (focus ((repeat constructor); done)); (focus ((repeat (first | exact rfl | constructor)); done))) | (apply RdN.own; (repeat (first | exact Has.here | apply Has.there)); (apply getNK_all; omega)) | (apply RdN.view; exact SlA.all (eK_length .u8) s)); (first | exact rfl | exact flatK_ones); (first | omega | (simp; omega) | (simp; done)); (first | omega | (simp; omega) | (simp; done)); intro rk24 sk24 ck24 ok24) | (apply s_append_n; exact rfl; exact rfl; (focus ((repeat constructor); done)); exact el_38; exact sz_5; exact zb_5; exact rfl; exact by_5; (first | exact (fun _ => rfl) | (intro _; exact s.at_ (by omega))); (first | (apply RdN.own; (focus ((repeat constructor); done)); (focus ((repeat (first | exact rfl | constructor)); done))) | (apply RdN.own; (repeat (first | exact Has.here | apply Has.there)); (apply getNK_all; omega)) | (apply RdN.view; exact SlA.all (eK_length .u8) s)); (first | exact rfl | exact flatK_ones); (first | omega | (simp; omega) | (simp; done)); (first | omega | (simp; omega) | (simp; done)); intro rk24 sk24 ck24 ok24))); (apply od_fx; (first | exact Wk.refl _ _ | (focus (apply Wk.mk; (first | exact View.le.refl _ | assumption | exact View.le.trans (by assumption) (by assumption)); (repeat constructor); done))); (apply fx_val; exact rfl; exact rfl; apply s_callv; exact rfl; exact gf_31; (intro w' hw'; (first | exact hsum w' hw'.le (hw'.ok_ (by (repeat (first | exact Has.here | apply Has.there)))) (fun h => by cases h) | exact hsum2 w' hw'.le (hw'.ok_ (by (repeat (first | exact Has.here | apply Has.there)))) (by omega) (fun h => by have := ok24.empty h; omega))))); (apply od_fx; (first | exact Wk.refl _ _ | (focus (apply Wk.mk; (first | exact View.le.refl _ | assumption | exact View.le.trans (by assumption) (by assumption)); (repeat constructor); done))); (apply fx_eff; exact rfl; apply s_storeK; exact rfl; exact rfl; exact sz_23; (focus ((repeat constructor); done)); (first | assumption | (rw [List.length_replicate]) | exact rfl); (first | assumption | (rw [List.length_replicate]) | exact rfl))); (apply od_mv; exact rfl; exact rfl; apply s_assign; exact rfl); (apply od_nil; (first | exact Wk.refl _ _ | (focus (apply Wk.mk; (first | exact View.le.refl _ | assumption | exact View.le.trans (by assumption) (by assumption)); (repeat constructor); done)))); (apply ol_nil))
    | (refine cw_drawW (id := 4) (own0 := []) 9 (.mv 0 (.mv 2 (.mv 4 (.fx 1 (.fx 3 (.fx 5 (.fx 6 (.fx 7 (.mv 8 (PT.nil)))))))))) mixed (by kernel_rfl) (by (first | exact Wk.refl _ _ | (focus (apply Wk.mk; (first | exact View.le.refl _ | assumption | exact View.le.trans (by assumption) (by assumption)); (repeat constructor); done)))) ?_; (apply od_mv; exact rfl; exact rfl; apply s_sliceP; exact rfl; exact ar_23; exact sz_5; exact rfl; exact rfl; exact rfl; (intro h; first | exact rfl | cases h); (first | omega | (simp; omega) | (simp; done)); (first | omega | (simp; omega) | (simp; done)); (first | omega | (simp; omega) | (simp; done))); (apply od_mv; exact rfl; exact rfl; apply s_sliceP; exact rfl; exact ar_23; exact sz_5; exact rfl; exact rfl; exact rfl; (intro h; first | exact rfl | cases h); (first | omega | (simp; omega) | (simp; done)); (first | omega | (simp; omega) | (simp; done)); (first | omega | (simp; omega) | (simp; done))); (apply od_mv; exact rfl; exact rfl; apply s_move; exact rfl); (apply od_fx; (first | exact Wk.refl _ _ | (focus (apply Wk.mk; (first | exact View.le.refl _ | assumption | exact View.le.trans (by assumption) (by assumption)); (repeat constructor); done))); (apply fx_val; exact rfl; exact rfl; apply s_call; exact rfl; exact gf_32; (intro w' hw'; exact cloneB_spec (View.le.refl (View.of w')) hT (SlA.part0 (hw'.ok_ (by (repeat (first | exact Has.here | apply Has.there))))) (by omega)); ((intro v new h; obtain ⟨r1, A1, c1, s1, rfl, rfl, so1⟩ := h)))); (apply od_fx; (first | exact Wk.refl _ _ | (focus (apply Wk.mk; (first | exact View.le.refl _ | assumption | exact View.le.trans (by assumption) (by assumption)); (repeat constructor); done))); (apply fx_val; exact rfl; exact rfl; first | (apply s_append_e; exact rfl; exact rfl; (focus ((repeat constructor); done)); exact el_38; exact sz_5; exact zb_5; exact rfl; exact by_5; (first | exact (fun _ => rfl) | (intro _; exact s.at_ (by omega))); (first | (apply RdN.own; (focus ((repeat constructor); done)); (focus ((repeat (first | exact rfl | constructor)); done))) | (apply RdN.own; (repeat (first | exact Has.here | apply Has.there)); (apply getNK_all; omega)) | (apply RdN.view; exact SlA.all (eK_length .u8) s)); (first | exact rfl | exact flatK_ones); (first | omega | (simp; omega) | (simp; done)); (first | omega | (simp; omega) | (simp; done)); intro rk22 sk22 ck22 ok22) | (apply s_append_r; exact rfl; exact rfl; (focus ((repeat constructor); done)); (first | exact rfl | exact (List.append_nil _).symm); exact el_38; exact sz_5; exact zb_5; exact rfl; exact by_5; (first | exact SO.nil _ | assumption | (exact ⟨by simp, by simp, Nat.le_refl _, by simp⟩)); (first | exact (fun _ => rfl) | (intro _; exact s.at_ (by omega))); (first | (apply RdN.own; (focus ((repeat constructor); done)); (focus ((repeat (first | exact rfl | constructor)); done))) | (apply RdN.own; (repeat (first | exact Has.here | apply Has.there)); (apply getNK_all; omega)) | (apply RdN.view; exact SlA.all (eK_length .u8) s)); (first | exact rfl | exact flatK_ones); (first | omega | (simp; omega) | (simp; done)); (first | omega | (simp; omega) | (simp; done)); intro rk22 sk22 ck22 ok22) | (apply s_append_b; exact rfl; exact rfl; (focus ((repeat constructor); done)); (first | exact rfl | exact (List.append_nil _).symm); exact el_38; exact sz_5; exact zb_5; exact rfl; exact by_5; (first | exact SO.nil _ | assumption | (exact ⟨by simp, by simp, Nat.le_refl _, by simp⟩)); (first | exact (fun _ => rfl) | (intro _; exact s.at_ (by omega))); (first | (apply RdN.own; (focus ((repeat constructor); done)); (focus ((repeat (first | exact rfl | constructor)); done))) | (apply RdN.own; (repeat (first | exact Has.here | apply Has.there)); (apply getNK_all; omega)) | (apply RdN.view; exact SlA.all (eK_length .u8) s)); (first | exact rfl | exact flatK_ones); (first | omega | (simp; omega) | (simp; done)); (first | omega | (simp; omega) | (simp; done)); intro rk22 sk22 ck22 ok22) | (apply s_append_n; exact rfl; exact rfl; (focus ((repeat constructor); done)); exact el_38; exact sz_5; exact zb_5; exact rfl; exact by_5; (first | exact (fun _ => rfl) | (intro _; exact s.at_ (by omega))); (first | (apply RdN.own; (focus ((repeat constructor); done)); (focus ((repeat (first | exact rfl | constructor)); done))) | (apply RdN.own; (repeat (first | exact Has.here | apply Has.there)); (apply getNK_all; omega)) | (apply RdN.view; exact SlA.all (eK_length .u8) s)); (first | exact rfl | exact flatK_ones); (first | omega | (simp; omega) | (simp; done)); (first | omega | (simp; omega) | (simp; done)); intro rk22 sk22 ck22 ok22))); (apply od_fx; (first | exact Wk.refl _ _ | (focus (apply Wk.mk; (first | exact View.le.refl _ | assumption | exact View.le.trans (by assumption) (by assumption)); (repeat constructor); done))); (apply fx_val; exact rfl; exact rfl; first | (apply s_append_e; exact rfl; exact rfl; (focus ((repeat constructor); done)); exact el_38; exact sz_5; exact zb_5; exact rfl; exact by_5; (first | exact (fun _ => rfl) | (intro _; exact s.at_ (by omega))); (first | (apply RdN.own; (focus ((repeat constructor); done)); (focus ((repeat (first | exact rfl | constructor)); done))) | (apply RdN.own; (repeat (first | exact Has.here | apply Has.there)); (apply getNK_all; omega)) | (apply RdN.view; exact SlA.all (eK_length .u8) s)); (first | exact rfl | exact flatK_ones); (first | omega | (simp; omega) | (simp; done)); (first | omega | (simp; omega) | (simp; done)); intro rk24 sk24 ck24 ok24) | (apply s_append_r; exact rfl; exact rfl; (focus ((repeat constructor); done)); (first | exact rfl | exact (List.append_nil _).symm); exact el_38; exact sz_5; exact zb_5; exact rfl; exact by_5; (first | exact SO.nil _ | assumption | (exact ⟨by simp, by simp, Nat.le_refl _, by simp⟩)); (first | exact (fun _ => rfl) | (intro _; exact s.at_ (by omega))); (first | (apply RdN.own; (focus ((repeat constructor); done)); (focus ((repeat (first | exact rfl | constructor)); done))) | (apply RdN.own; (repeat (first | exact Has.here | apply Has.there)); (apply getNK_all; omega)) | (apply RdN.view; exact SlA.all (eK_length .u8) s)); (first | exact rfl | exact flatK_ones); (first | omega | (simp; omega) | (simp; done)); (first | omega | (simp; omega) | (simp; done)); intro rk24 sk24 ck24 ok24) | (apply s_append_b; exact rfl; exact rfl; (focus ((repeat constructor); done)); (first | exact rfl | exact (List.append_nil _).symm); exact el_38; exact sz_5; exact zb_5; exact rfl; exact by_5; (first | exact SO.nil _ | assumption | (exact ⟨by simp, by simp, Nat.le_refl _, by simp⟩)); (first | exact (fun _ => rfl) | (intro _; exact s.at_ (by omega))); (first | (apply RdN.own; (focus ((repeat constructor); done)); (focus ((repeat (first | exact rfl | constructor)); done))) | (apply RdN.own; (repeat (first | exact Has.here | apply Has.there)); (apply getNK_all; omega)) | (apply RdN.view; exact SlA.all (eK_length .u8) s)); (first | exact rfl | exact flatK_ones); (first | omega | (simp; omega) | (simp; done)); (first | omega | (simp; omega) | (simp; done)); intro rk24 sk24 ck24 ok24) | (apply s_append_n; exact rfl; exact rfl; (focus ((repeat constructor); done)); exact el_38; exact sz_5; exact zb_5; exact rfl; exact by_5; (first | exact (fun _ => rfl) | (intro _; exact s.at_ (by omega))); (first | (apply RdN.own; (focus ((repeat constructor); done)); (focus ((repeat (first | exact rfl | constructor)); done))) | (apply RdN.own; (repeat (first | exact Has.here | apply Has.there)); (apply getNK_all; omega)) | (apply RdN.view; exact SlA.all (eK_length .u8) s)); (first | exact rfl | exact flatK_ones); (first | omega | (simp; omega) | (simp; done)); (first | omega | (simp; omega) | (simp; done)); intro rk24 sk24 ck24 ok24))); (apply od_fx; (first | exact Wk.refl _ _ | (focus (apply Wk.mk; (first | exact View.le.refl _ | assumption | exact View.le.trans (by assumption) (by assumption)); (repeat constructor); done))); (apply fx_val; exact rfl; exact rfl; apply s_callv; exact rfl; exact gf_31; (intro w' hw'; (first | exact hsum w' hw'.le (hw'.ok_ (by (repeat (first | exact Has.here | apply Has.there)))) (fun h => by cases h) | exact hsum2 w' hw'.le (hw'.ok_ (by (repeat (first | exact Has.here | apply Has.there)))) (by omega) (fun h => by have := ok24.empty h; omega))))); (apply od_fx; (first | exact Wk.refl _ _ | (focus (apply Wk.mk; (first | exact View.le.refl _ | assumption | exact View.le.trans (by assumption) (by assumption)); (repeat constructor); done))); (apply fx_eff; exact rfl; apply s_storeK; exact rfl; exact rfl; exact sz_23; (focus ((repeat constructor); done)); (first | assumption | (rw [List.length_replicate]) | exact rfl); (first | assumption | (rw [List.length_replicate]) | exact rfl))); (apply od_mv; exact rfl; exact rfl; apply s_assign; exact rfl); (apply od_nil; (first | exact Wk.refl _ _ | (focus (apply Wk.mk; (first | exact View.le.refl _ | assumption | exact View.le.trans (by assumption) (by assumption)); (repeat constructor); done)))); (apply ol_nil))
    | (apply cw_cond_true; exact rfl; (first | exact rfl | assumption))
    | (apply cw_cond_false; exact rfl; (first | exact rfl | assumption))
    | apply cw_skip
    | apply cw_ret
    | apply cw_block
    | apply cw_exit
  refine ends [] (RVal.cellN rfl rfl rfl (RdN.own (by (repeat (first | exact Has.here | apply Has.there))) (getNK_all hR)) (RVal.tmp rfl RVal.nil)) Pick.nil ?_
  rfl

theorem rtagged_spec {M : View} {w : World} (hM : View.le M (View.of w)) {t : ByteArray} (ht : 1 ≤ t.size ∧ t.size ≤ 100) {p : List Int} {n c : Nat} (hn : p.length = n) (hl : n ≤ 536870912) (hb : isB p) {a : Option Addr} {b o : Nat} (s : SlA M (eK .u8) 1 a p b o) :
    FnC Tryd.prog 23 [.string t, .slice a n c] w (fun v _ => v = .agg (flat (eK .u8) (tagd (intsB t) p)).toArray) := by
  subst hn
  refine enterF (M := M) Tryd.func23 rfl rfl rfl rfl hM ?_
  have hT := sha_length (intsB t)
  have hTb := isB_sha (intsB t)
  have hil := intsB_length t
  unfold tagd
  have hsum : ∀ (w' : World) {r : Option Nat} {A : Option Addr} {c : Nat} {sp : List Value}, View.le M (View.of w') → OB.ok ⟨r, flat (eK .u8) (intsB t) ++ sp, 5⟩ w' → (r = none → intsB t = []) → FnC Tryd.prog 35 [.slice (base r A) t.size c] w' (fun v _ => v = .agg (flat (eK .u8) (sha (intsB t))).toArray) := fun w' r A c sp h1 h2 h3 =>
    rsum_spec (View.le.refl (View.of w')) hil (by omega) (isB.of (intsB_b t)) (SlA.ownK h2 h3)
  generalize sha (intsB t) = T at *
  have hR := sha_length (T ++ T ++ p)
  have hsum2 : ∀ (w' : World) {r : Option Nat} {A : Option Addr} {m c : Nat} {sp : List Value}, View.le M (View.of w') → OB.ok ⟨r, flat (eK .u8) ([] ++ T ++ T) ++ flat (eK .u8) p ++ sp, 5⟩ w' → m = T.length + T.length + p.length → (r = none → False) → FnC Tryd.prog 35 [.slice (base r A) m c] w' (fun v _ => v = .agg (flat (eK .u8) (sha (T ++ T ++ p))).toArray) := fun w' r A m c sp h1 h2 h3 h4 => by
    rw [← flat_append] at h2
    exact rsum_spec (View.le.refl (View.of w')) (by rw [List.length_append, List.length_append]; exact h3.symm) (by omega) ((hTb.append hTb).append hb) (SlA.ownK h2 (fun h => (h4 h).elim))
  generalize sha (T ++ T ++ p) = R at *
  have hTT : ([] ++ T ++ T).length = 64 := by simp; omega
  repeat' first
    | apply cw_seq
    | (refine cw_region_id 0 ?_; (apply ol_val; exact rfl; apply s_allocK; exact zk_23; intro bk4); (apply ol_nil))
    | (refine cw_region_id 1 ?_; (apply ol_mv; exact rfl; exact rfl); (apply ol_val; exact rfl; apply s_convSB; exact rfl; exact us_9; exact el_38; exact tdInt_eq ti_5; intro bk7 ck7 sk7 ok7); (apply ol_val; exact rfl; apply s_callv; exact rfl; exact gf_35; (intro w' hw'; (first | exact hsum w' hw'.le (hw'.ok_ (by (repeat (first | exact Has.here | apply Has.there)))) (fun h => by cases h) | exact hsum2 w' hw'.le (hw'.ok_ (by (repeat (first | exact Has.here | apply Has.there)))) (by omega) (fun h => by have := ok14.empty h; omega)))); (apply ol_val; exact rfl; apply s_allocK; exact zk_23; intro bk5); (apply ol_eff; apply s_storeK; exact rfl; exact rfl; exact sz_23; (focus ((repeat constructor); done)); (first | assumption | (rw [List.length_replicate]) | exact rfl); (first | assumption | (rw [List.length_replicate]) | exact rfl)); (apply ol_nil))
    | (refine cw_draw (id := 2) 5 (.mv 0 (.mv 2 (.mv 4 (.fx 1 (.fx 3 (PT.nil)))))) mixed (by kernel_rfl) ?_; (apply od_mv; exact rfl; exact rfl; apply s_loadN; exact rfl; exact rfl; exact sz_23; (apply RdN.own; (focus ((repeat constructor); done)); (apply getNK_all; (first | assumption | (rw [List.length_replicate]) | exact rfl)))); (apply od_mv; exact rfl; exact rfl; apply s_loadN; exact rfl; exact rfl; exact sz_23; (apply RdN.own; (focus ((repeat constructor); done)); (apply getNK_all; (first | assumption | (rw [List.length_replicate]) | exact rfl)))); (apply od_mv; exact rfl; exact rfl; apply s_move; exact rfl); (apply od_fx; (first | exact Wk.refl _ _ | (focus (apply Wk.mk; (first | exact View.le.refl _ | assumption | exact View.le.trans (by assumption) (by assumption)); (repeat constructor); done))); (apply fx_val; exact rfl; exact rfl; apply s_call; exact rfl; exact gf_36; (intro w' hw'; (first | exact join_spec (View.le.refl (View.of w')) (p := []) (n := 0) rfl (by omega) hT SlA.zilch | exact join_spec (View.le.refl (View.of w')) (p := [] ++ T) rfl (by simp; omega) hT (SlA.ownK (hw'.ok_ (by (repeat (first | exact Has.here | apply Has.there)))) (soj1.emp)))); ((intro v new h; first | (obtain ⟨rj1, Aj1, cj1, sj1, rfl, rfl, soj1⟩ := h))))); (apply od_fx; (first | exact Wk.refl _ _ | (focus (apply Wk.mk; (first | exact View.le.refl _ | assumption | exact View.le.trans (by assumption) (by assumption)); (repeat constructor); done))); (apply fx_val; exact rfl; exact rfl; apply s_call; exact rfl; exact gf_36; (intro w' hw'; (first | exact join_spec (View.le.refl (View.of w')) (p := []) (n := 0) rfl (by omega) hT SlA.zilch | exact join_spec (View.le.refl (View.of w')) (p := [] ++ T) rfl (by simp; omega) hT (SlA.ownK (hw'.ok_ (by (repeat (first | exact Has.here | apply Has.there)))) (soj1.emp)))); ((intro v new h; first | (obtain ⟨rj1, Aj1, cj1, sj1, rfl, rfl, soj1⟩ := h))))); (apply od_nil; (first | exact Wk.refl _ _ | (focus (apply Wk.mk; (first | exact View.le.refl _ | assumption | exact View.le.trans (by assumption) (by assumption)); (repeat constructor); done)))); (apply ol_val; exact rfl; first | (apply s_append_e; exact rfl; exact rfl; (focus ((repeat constructor); done)); exact el_38; exact sz_5; exact zb_5; exact rfl; exact by_5; (first | exact (fun _ => rfl) | (intro _; exact s.at_ (by omega))); (first | (apply RdN.own; (focus ((repeat constructor); done)); (focus ((repeat (first | exact rfl | constructor)); done))) | (apply RdN.own; (repeat (first | exact Has.here | apply Has.there)); (apply getNK_all; omega)) | (apply RdN.view; exact SlA.all (eK_length .u8) s)); (first | exact rfl | exact flatK_ones); (first | omega | (simp; omega) | (simp; done)); (first | omega | (simp; omega) | (simp; done)); intro rk14 sk14 ck14 ok14) | (apply s_append_r; exact rfl; exact rfl; (focus ((repeat constructor); done)); (first | exact rfl | exact (List.append_nil _).symm); exact el_38; exact sz_5; exact zb_5; exact rfl; exact by_5; (first | exact SO.nil _ | assumption | (exact ⟨by simp, by simp, Nat.le_refl _, by simp⟩)); (first | exact (fun _ => rfl) | (intro _; exact s.at_ (by omega))); (first | (apply RdN.own; (focus ((repeat constructor); done)); (focus ((repeat (first | exact rfl | constructor)); done))) | (apply RdN.own; (repeat (first | exact Has.here | apply Has.there)); (apply getNK_all; omega)) | (apply RdN.view; exact SlA.all (eK_length .u8) s)); (first | exact rfl | exact flatK_ones); (first | omega | (simp; omega) | (simp; done)); (first | omega | (simp; omega) | (simp; done)); intro rk14 sk14 ck14 ok14) | (apply s_append_b; exact rfl; exact rfl; (focus ((repeat constructor); done)); (first | exact rfl | exact (List.append_nil _).symm); exact el_38; exact sz_5; exact zb_5; exact rfl; exact by_5; (first | exact SO.nil _ | assumption | (exact ⟨by simp, by simp, Nat.le_refl _, by simp⟩)); (first | exact (fun _ => rfl) | (intro _; exact s.at_ (by omega))); (first | (apply RdN.own; (focus ((repeat constructor); done)); (focus ((repeat (first | exact rfl | constructor)); done))) | (apply RdN.own; (repeat (first | exact Has.here | apply Has.there)); (apply getNK_all; omega)) | (apply RdN.view; exact SlA.all (eK_length .u8) s)); (first | exact rfl | exact flatK_ones); (first | omega | (simp; omega) | (simp; done)); (first | omega | (simp; omega) | (simp; done)); intro rk14 sk14 ck14 ok14) | (apply s_append_n; exact rfl; exact rfl; (focus ((repeat constructor); done)); exact el_38; exact sz_5; exact zb_5; exact rfl; exact by_5; (first | exact (fun _ => rfl) | (intro _; exact s.at_ (by omega))); (first | (apply RdN.own; (focus ((repeat constructor); done)); (focus ((repeat (first | exact rfl | constructor)); done))) | (apply RdN.own; (repeat (first | exact Has.here | apply Has.there)); (apply getNK_all; omega)) | (apply RdN.view; exact SlA.all (eK_length .u8) s)); (first | exact rfl | exact flatK_ones); (first | omega | (simp; omega) | (simp; done)); (first | omega | (simp; omega) | (simp; done)); intro rk14 sk14 ck14 ok14)); (apply ol_val; exact rfl; apply s_callv; exact rfl; exact gf_35; (intro w' hw'; (first | exact hsum w' hw'.le (hw'.ok_ (by (repeat (first | exact Has.here | apply Has.there)))) (fun h => by cases h) | exact hsum2 w' hw'.le (hw'.ok_ (by (repeat (first | exact Has.here | apply Has.there)))) (by omega) (fun h => by have := ok14.empty h; omega)))); (apply ol_eff; apply s_storeK; exact rfl; exact rfl; exact sz_23; (focus ((repeat constructor); done)); (first | assumption | (rw [List.length_replicate]) | exact rfl); (first | assumption | (rw [List.length_replicate]) | exact rfl)); (apply ol_nil))
    | (refine cw_drawW (id := 2) (own0 := [⟨some bk5, flat (eK .u8) T, 23⟩]) 5 (.mv 0 (.mv 2 (.mv 4 (.fx 1 (.fx 3 (PT.nil)))))) mixed (by kernel_rfl) (by (first | exact Wk.refl _ _ | (focus (apply Wk.mk; (first | exact View.le.refl _ | assumption | exact View.le.trans (by assumption) (by assumption)); (repeat constructor); done)))) ?_; (apply od_mv; exact rfl; exact rfl; apply s_loadN; exact rfl; exact rfl; exact sz_23; (apply RdN.own; (focus ((repeat constructor); done)); (apply getNK_all; (first | assumption | (rw [List.length_replicate]) | exact rfl)))); (apply od_mv; exact rfl; exact rfl; apply s_loadN; exact rfl; exact rfl; exact sz_23; (apply RdN.own; (focus ((repeat constructor); done)); (apply getNK_all; (first | assumption | (rw [List.length_replicate]) | exact rfl)))); (apply od_mv; exact rfl; exact rfl; apply s_move; exact rfl); (apply od_fx; (first | exact Wk.refl _ _ | (focus (apply Wk.mk; (first | exact View.le.refl _ | assumption | exact View.le.trans (by assumption) (by assumption)); (repeat constructor); done))); (apply fx_val; exact rfl; exact rfl; apply s_call; exact rfl; exact gf_36; (intro w' hw'; (first | exact join_spec (View.le.refl (View.of w')) (p := []) (n := 0) rfl (by omega) hT SlA.zilch | exact join_spec (View.le.refl (View.of w')) (p := [] ++ T) rfl (by simp; omega) hT (SlA.ownK (hw'.ok_ (by (repeat (first | exact Has.here | apply Has.there)))) (soj1.emp)))); ((intro v new h; first | (obtain ⟨rj1, Aj1, cj1, sj1, rfl, rfl, soj1⟩ := h))))); (apply od_fx; (first | exact Wk.refl _ _ | (focus (apply Wk.mk; (first | exact View.le.refl _ | assumption | exact View.le.trans (by assumption) (by assumption)); (repeat constructor); done))); (apply fx_val; exact rfl; exact rfl; apply s_call; exact rfl; exact gf_36; (intro w' hw'; (first | exact join_spec (View.le.refl (View.of w')) (p := []) (n := 0) rfl (by omega) hT SlA.zilch | exact join_spec (View.le.refl (View.of w')) (p := [] ++ T) rfl (by simp; omega) hT (SlA.ownK (hw'.ok_ (by (repeat (first | exact Has.here | apply Has.there)))) (soj1.emp)))); ((intro v new h; first | (obtain ⟨rj1, Aj1, cj1, sj1, rfl, rfl, soj1⟩ := h))))); (apply od_nil; (first | exact Wk.refl _ _ | (focus (apply Wk.mk; (first | exact View.le.refl _ | assumption | exact View.le.trans (by assumption) (by assumption)); (repeat constructor); done)))); (apply ol_val; exact rfl; first | (apply s_append_e; exact rfl; exact rfl; (focus ((repeat constructor); done)); exact el_38; exact sz_5; exact zb_5; exact rfl; exact by_5; (first | exact (fun _ => rfl) | (intro _; exact s.at_ (by omega))); (first | (apply RdN.own; (focus ((repeat constructor); done)); (focus ((repeat (first | exact rfl | constructor)); done))) | (apply RdN.own; (repeat (first | exact Has.here | apply Has.there)); (apply getNK_all; omega)) | (apply RdN.view; exact SlA.all (eK_length .u8) s)); (first | exact rfl | exact flatK_ones); (first | omega | (simp; omega) | (simp; done)); (first | omega | (simp; omega) | (simp; done)); intro rk14 sk14 ck14 ok14) | (apply s_append_r; exact rfl; exact rfl; (focus ((repeat constructor); done)); (first | exact rfl | exact (List.append_nil _).symm); exact el_38; exact sz_5; exact zb_5; exact rfl; exact by_5; (first | exact SO.nil _ | assumption | (exact ⟨by simp, by simp, Nat.le_refl _, by simp⟩)); (first | exact (fun _ => rfl) | (intro _; exact s.at_ (by omega))); (first | (apply RdN.own; (focus ((repeat constructor); done)); (focus ((repeat (first | exact rfl | constructor)); done))) | (apply RdN.own; (repeat (first | exact Has.here | apply Has.there)); (apply getNK_all; omega)) | (apply RdN.view; exact SlA.all (eK_length .u8) s)); (first | exact rfl | exact flatK_ones); (first | omega | (simp; omega) | (simp; done)); (first | omega | (simp; omega) | (simp; done)); intro rk14 sk14 ck14 ok14) | (apply s_append_b; exact rfl; exact rfl; (focus ((repeat constructor); done)); (first | exact rfl | exact (List.append_nil _).symm); exact el_38; exact sz_5; exact zb_5; exact rfl; exact by_5; (first | exact SO.nil _ | assumption | (exact ⟨by simp, by simp, Nat.le_refl _, by simp⟩)); (first | exact (fun _ => rfl) | (intro _; exact s.at_ (by omega))); (first | (apply RdN.own; (focus ((repeat constructor); done)); (focus ((repeat (first | exact rfl | constructor)); done))) | (apply RdN.own; (repeat (first | exact Has.here | apply Has.there)); (apply getNK_all; omega)) | (apply RdN.view; exact SlA.all (eK_length .u8) s)); (first | exact rfl | exact flatK_ones); (first | omega | (simp; omega) | (simp; done)); (first | omega | (simp; omega) | (simp; done)); intro rk14 sk14 ck14 ok14) | (apply s_append_n; exact rfl; exact rfl; (focus ((repeat constructor); done)); exact el_38; exact sz_5; exact zb_5; exact rfl; exact by_5; (first | exact (fun _ => rfl) | (intro _; exact s.at_ (by omega))); (first | (apply RdN.own; (focus ((repeat constructor); done)); (focus ((repeat (first | exact rfl | constructor)); done))) | (apply RdN.own; (repeat (first | exact Has.here | apply Has.there)); (apply getNK_all; omega)) | (apply RdN.view; exact SlA.all (eK_length .u8) s)); (first | exact rfl | exact flatK_ones); (first | omega | (simp; omega) | (simp; done)); (first | omega | (simp; omega) | (simp; done)); intro rk14 sk14 ck14 ok14)); (apply ol_val; exact rfl; apply s_callv; exact rfl; exact gf_35; (intro w' hw'; (first | exact hsum w' hw'.le (hw'.ok_ (by (repeat (first | exact Has.here | apply Has.there)))) (fun h => by cases h) | exact hsum2 w' hw'.le (hw'.ok_ (by (repeat (first | exact Has.here | apply Has.there)))) (by omega) (fun h => by have := ok14.empty h; omega)))); (apply ol_eff; apply s_storeK; exact rfl; exact rfl; exact sz_23; (focus ((repeat constructor); done)); (first | assumption | (rw [List.length_replicate]) | exact rfl); (first | assumption | (rw [List.length_replicate]) | exact rfl)); (apply ol_nil))
    | (apply cw_cond_true; exact rfl; (first | exact rfl | assumption))
    | (apply cw_cond_false; exact rfl; (first | exact rfl | assumption))
    | apply cw_skip
    | apply cw_ret
    | apply cw_block
    | apply cw_exit
  refine ends [] (RVal.cellN rfl rfl rfl (RdN.own (by (repeat (first | exact Has.here | apply Has.there))) (getNK_all hR)) RVal.nil) Pick.nil ?_
  rfl
end Go.Proofs.YtkbbbflojebfgaaDoor

/-
  Numbers of digests: plain facts.
-/
namespace Go.Proofs.YtkbbbflojebfgaaDoor
set_option maxRecDepth 20000
set_option linter.unusedSimpArgs false
set_option linter.unusedVariables false
open Go Go.Fw
/-- The number of the first k bytes. -/
def numB (h : List Int) : Nat → Int
  | 0 => 0
  | k + 1 => 256 * numB h k + h.getD k 0
theorem numB_nonneg {h : List Int} (hb : isB h) : ∀ k, 0 ≤ numB h k
  | 0 => by simp [numB]
  | k + 1 => by have := numB_nonneg hb k; have := hb k; simp only [numB]; omega
def dblN (X : Int) : Nat → Int
  | 0 => X
  | j + 1 => dblN X j + dblN X j
theorem dblN_8 (X : Int) : dblN X 8 = 256 * X := by simp only [dblN]; omega
theorem dbl_step (X : Int) (j : Nat) (m : Int) : (dblN X j % m + dblN X j % m) % m = dblN X (j + 1) % m := (Int.add_emod _ _ _).symm
theorem num_step (h : List Int) (i : Nat) (m : Int) : (dblN (numB h i) 8 % m + h.getD i 0 % m) % m = numB h (i + 1) % m := by
  rw [← Int.add_emod, dblN_8]; rfl
theorem add_mul_emod (x y k m : Int) : (x + (y % m) * k) % m = (x + y * k) % m := by
  rw [Int.add_emod, Int.mul_emod, Int.emod_emod, ← Int.mul_emod, ← Int.add_emod]
theorem num_step2 (h : List Int) (i : Nat) (m : Int) : (((numB h i % m) * (256 % m)) % m + h.getD i 0) % m = numB h (i + 1) % m := by
  rw [← Int.mul_emod, Int.emod_add_emod]
  show _ = (256 * numB h i + _) % m
  rw [Int.mul_comm 256]
theorem mul_step_odd {out a b m : Int} (hb : 0 < b) (ho : b % 2 = 1) : ((out + a) % m + ((a + a) % m) * (b / 2)) % m = (out + a * b) % m := by
  rw [add_mul_emod, Int.emod_add_emod]
  have hb2 : b = 2 * (b / 2) + 1 := by omega
  generalize b / 2 = c at *
  subst hb2
  congr 1
  rw [Int.mul_add, Int.add_mul, ← Int.mul_assoc, Int.mul_comm a 2, Int.mul_assoc]
  omega
theorem mul_step_even {out a b m : Int} (hb : 0 < b) (ho : b % 2 = 0) : (out + ((a + a) % m) * (b / 2)) % m = (out + a * b) % m := by
  rw [add_mul_emod]
  have hb2 : b = 2 * (b / 2) := by omega
  generalize b / 2 = c at *
  subst hb2
  congr 1
  rw [Int.add_mul, ← Int.mul_assoc, Int.mul_comm a 2, Int.mul_assoc]
  omega
end Go.Proofs.YtkbbbflojebfgaaDoor

/-
  The walks of numbers of digests.
-/
namespace Go.Proofs.YtkbbbflojebfgaaDoor
set_option maxRecDepth 20000
set_option linter.unusedSimpArgs false
set_option linter.unusedVariables false
open Go Go.Fw
attribute [local irreducible] CW OL OD FX Stp FnC Ret
set_option maxHeartbeats 800000

theorem residue_spec (w : World) {a m : Int} (h : 0 ≤ a ∧ a < m) : FnC Tryd.prog 52 [.int .i64 a, .int .i64 m] w (fun v _ => v = .bool true) := by
  refine enterF (M := View.of w) Tryd.func52 rfl rfl rfl rfl (View.le.refl _) ?_
  repeat' first
    | apply cw_seq
    | (refine cw_region_id 0 ?_; (apply ol_as; exact rfl; exact rfl); (apply ol_nil))
    | (refine cw_region_id 1 ?_; (apply ol_mv; exact rfl; exact rfl); (apply ol_val; exact rfl; apply stp_cmp; apply s_geq; exact rfl; exact rfl; all_goals (intro hc6; try (exfalso; (first | exact hc6 rfl | omega)))); all_goals (apply ol_mv; exact rfl; exact rfl); all_goals (first | (apply ol_gskip; exact rfl; exact rfl; (first | exact rfl | assumption); exact rfl) | (apply ol_gval; exact rfl; exact rfl; exact rfl; (first | exact rfl | assumption); apply stp_pur; apply s_move; exact rfl)); all_goals (first | (apply ol_gskip; exact rfl; exact rfl; (first | exact rfl | assumption); exact rfl) | (apply ol_gval; exact rfl; exact rfl; exact rfl; (first | exact rfl | assumption); apply stp_pur; apply s_move; exact rfl)); all_goals (first | (apply ol_gskip; exact rfl; exact rfl; (first | exact rfl | assumption); exact rfl) | (apply ol_gval; exact rfl; exact rfl; exact rfl; (first | exact rfl | assumption); apply stp_cmp; apply s_lss; exact rfl; exact rfl; all_goals (intro hc10; try (exfalso; (first | exact hc10 rfl | omega))))); all_goals (apply ol_val; exact rfl; apply stp_pur; first | (apply s_pick_t; exact rfl; (first | exact rfl | assumption); exact rfl) | (apply s_pick_f; exact rfl; (first | exact rfl | assumption); exact rfl)); all_goals (apply ol_as; exact rfl; exact rfl); all_goals (apply ol_nil))
    | (apply cw_cond_true; exact rfl; (first | exact rfl | assumption))
    | (apply cw_cond_false; exact rfl; (first | exact rfl | assumption))
    | apply cw_skip
    | apply cw_ret
    | apply cw_block
    | apply cw_exit
  refine ends [] (RVal.tmp rfl RVal.nil) Pick.nil ?_
  rfl

theorem check_spec (w : World) {a b m : Int} (hm : 1 ≤ m ∧ m < 2305843009213693952) (ha : 0 ≤ a ∧ a < m) (hb : 0 ≤ b ∧ b < m) : FnC Tryd.prog 42 [.int .i64 a, .int .i64 b, .int .i64 m] w (fun v _ => v = .int .i64 0) := by
  refine enterF (M := View.of w) Tryd.func42 rfl rfl rfl rfl (View.le.refl _) ?_
  repeat' first
    | apply cw_seq
    | (refine cw_region_id 0 ?_; (apply ol_as; exact rfl; exact rfl); (apply ol_nil))
    | (refine cw_region_id 1 ?_; (apply ol_mv; exact rfl; exact rfl); (apply ol_val; exact rfl; apply stp_cmp; apply s_lss; exact rfl; exact rfl; all_goals (intro hc9; try (exfalso; (first | exact hc9 rfl | omega)))); all_goals (apply ol_mv; exact rfl; exact rfl); all_goals (first | (apply ol_gskip; exact rfl; exact rfl; (first | exact rfl | assumption); exact rfl) | (apply ol_gval; exact rfl; exact rfl; exact rfl; (first | exact rfl | assumption); apply stp_pur; apply s_move; exact rfl)); all_goals (first | (apply ol_gskip; exact rfl; exact rfl; (first | exact rfl | assumption); exact rfl) | (apply ol_gval; exact rfl; exact rfl; exact rfl; (first | exact rfl | assumption); apply stp_cmp; apply s_geq; exact rfl; exact rfl; all_goals (intro hc12; try (exfalso; (first | exact hc12 rfl | omega))))); all_goals (apply ol_val; exact rfl; apply stp_pur; first | (apply s_pick_t; exact rfl; (first | exact rfl | assumption); exact rfl) | (apply s_pick_f; exact rfl; (first | exact rfl | assumption); exact rfl)); all_goals (apply ol_as; exact rfl; exact rfl); all_goals (apply ol_nil))
    | (refine cw_region_id 2 ?_; (apply ol_as; exact rfl; exact rfl); (apply ol_nil))
    | (refine cw_region_id 3 ?_; (apply ol_mv; exact rfl; exact rfl); (apply ol_mv; exact rfl; exact rfl); (apply ol_val; exact rfl; apply s_callv; exact rfl; exact gf_52; (intro w' hw'; (first | exact residue_spec w' ha | exact residue_spec w' hb))); (apply ol_val; exact rfl; apply stp_pur; first | (apply s_not_t; exact rfl; (first | exact rfl | assumption)) | (apply s_not_f; exact rfl; (first | exact rfl | assumption)) | (apply s_not; exact rfl)); (apply ol_mv; exact rfl; exact rfl); (first | (apply ol_gskip; exact rfl; exact rfl; (first | exact rfl | assumption); exact rfl) | (apply ol_gval; exact rfl; exact rfl; exact rfl; (first | exact rfl | assumption); apply stp_pur; apply s_move; exact rfl)); (first | (apply ol_gskip; exact rfl; exact rfl; (first | exact rfl | assumption); exact rfl) | (apply ol_gval; exact rfl; exact rfl; exact rfl; (first | exact rfl | assumption); apply stp_pur; apply s_move; exact rfl)); (first | (apply ol_gskip; exact rfl; exact rfl; (first | exact rfl | assumption); exact rfl) | (apply ol_gval; exact rfl; exact rfl; exact rfl; (first | exact rfl | assumption); apply s_callv; exact rfl; exact gf_52; (intro w' hw'; (first | exact residue_spec w' ha | exact residue_spec w' hb)))); (first | (apply ol_gskip; exact rfl; exact rfl; (first | exact rfl | assumption); exact rfl) | (apply ol_gval; exact rfl; exact rfl; exact rfl; (first | exact rfl | assumption); apply stp_pur; first | (apply s_not_t; exact rfl; (first | exact rfl | assumption)) | (apply s_not_f; exact rfl; (first | exact rfl | assumption)) | (apply s_not; exact rfl))); (apply ol_val; exact rfl; apply stp_pur; first | (apply s_pick_t; exact rfl; (first | exact rfl | assumption); exact rfl) | (apply s_pick_f; exact rfl; (first | exact rfl | assumption); exact rfl)); (apply ol_as; exact rfl; exact rfl); (apply ol_nil))
    | (refine cw_region_id 4 ?_; (apply ol_as; exact rfl; exact rfl); (apply ol_nil))
    | (refine cw_region_id 5 ?_; (apply ol_as; exact rfl; exact rfl); (apply ol_nil))
    | (apply cw_cond_true; exact rfl; (first | exact rfl | assumption))
    | (apply cw_cond_false; exact rfl; (first | exact rfl | assumption))
    | apply cw_skip
    | apply cw_ret
    | apply cw_block
    | apply cw_exit
  refine ends [] (RVal.tmp rfl RVal.nil) Pick.nil ?_
  rfl

theorem add_spec (w : World) {a b m : Int} (hm : 1 ≤ m ∧ m < 2305843009213693952) (ha : 0 ≤ a ∧ a < m) (hb : 0 ≤ b ∧ b < m) : FnC Tryd.prog 30 [.int .i64 a, .int .i64 b, .int .i64 m] w (fun v _ => v = .tuple #[.int .i64 ((a + b) % m), .int .i64 0]) := by
  refine enterF (M := View.of w) Tryd.func30 rfl rfl rfl rfl (View.le.refl _) ?_
  repeat' first
    | apply cw_seq
    | (refine cw_region_id 0 ?_; (apply ol_as; exact rfl; exact rfl); (apply ol_as; exact rfl; exact rfl); (apply ol_nil))
    | (refine cw_region_id 1 ?_; (apply ol_mv; exact rfl; exact rfl); (apply ol_mv; exact rfl; exact rfl); (apply ol_mv; exact rfl; exact rfl); (apply ol_val; exact rfl; apply s_callv; exact rfl; exact gf_42; (intro w' hw'; exact check_spec w' hm ha hb)); (apply ol_as; exact rfl; exact rfl); (apply ol_nil))
    | (refine cw_region_id 2 ?_; (apply ol_mv; exact rfl; exact rfl); (apply ol_val; exact rfl; apply stp_cmp; apply s_neq; exact rfl; exact rfl; all_goals (intro hc14; try (exfalso; (first | exact hc14 rfl | omega)))); all_goals (apply ol_nil))
    | (refine cw_region_id 3 ?_; (apply ol_mv; exact rfl; exact rfl); (apply ol_as; exact rfl; exact rfl); (apply ol_as; exact rfl; exact rfl); (apply ol_nil))
    | (refine cw_region_id 4 ?_; (apply ol_mv; exact rfl; exact rfl); (apply ol_mv; exact rfl; exact rfl); (apply ol_val; exact rfl; apply stp_pur; apply s_add64; exact rfl; exact rfl; omega); (apply ol_mv; exact rfl; exact rfl); (apply ol_val; exact rfl; apply stp_pur; first | (apply s_rem64; exact rfl; exact rfl; omega) | (apply s_remT; exact rfl; exact rfl; omega)); (apply ol_as; exact rfl; exact rfl); (apply ol_as; exact rfl; exact rfl); (apply ol_nil))
    | (apply cw_cond_true; exact rfl; (first | exact rfl | assumption))
    | (apply cw_cond_false; exact rfl; (first | exact rfl | assumption))
    | apply cw_skip
    | apply cw_ret
    | apply cw_block
    | apply cw_exit
  refine ends [] (RVal.tmp rfl (RVal.tmp rfl RVal.nil)) Pick.nil ?_
  rfl

theorem number_err (w : World) {h : List Int} {m : Int} (hm : ¬ (1 ≤ m ∧ m < 2305843009213693952)) : FnC Tryd.prog 20 [.agg (flat (eK .u8) h).toArray, .int .i64 m] w (fun v _ => v = .tuple #[.int .i64 0, .int .i64 1]) := by
  refine enterF (M := View.of w) Tryd.func20 rfl rfl rfl rfl (View.le.refl _) ?_
  by_cases h1 : m < 1
  ·
    repeat' first
      | apply cw_seq
      | (refine cw_region_id 0 ?_; (apply ol_val; exact rfl; first | (apply s_boxN; exact rfl; intro bk2) | (apply s_box1; exact rfl; exact rfl; intro bk2)); (apply ol_as; exact rfl; exact rfl); (apply ol_as; exact rfl; exact rfl); (apply ol_nil))
      | (refine cw_region_id 1 ?_; (apply ol_mv; exact rfl; exact rfl); (apply ol_val; exact rfl; apply stp_cmp; apply s_lss; exact rfl; exact rfl; all_goals (intro hc10; try (exfalso; (first | exact hc10 rfl | omega)))); all_goals (apply ol_mv; exact rfl; exact rfl); all_goals (first | (apply ol_gskip; exact rfl; exact rfl; (first | exact rfl | assumption); exact rfl) | (apply ol_gval; exact rfl; exact rfl; exact rfl; (first | exact rfl | assumption); apply stp_pur; apply s_move; exact rfl)); all_goals (first | (apply ol_gskip; exact rfl; exact rfl; (first | exact rfl | assumption); exact rfl) | (apply ol_gval; exact rfl; exact rfl; exact rfl; (first | exact rfl | assumption); apply stp_cmp; apply s_geq; exact rfl; exact rfl; all_goals (intro hc13; try (exfalso; (first | exact hc13 rfl | omega))))); all_goals (apply ol_val; exact rfl; apply stp_pur; first | (apply s_pick_t; exact rfl; (first | exact rfl | assumption); exact rfl) | (apply s_pick_f; exact rfl; (first | exact rfl | assumption); exact rfl)); all_goals (apply ol_nil))
      | (refine cw_region_id 2 ?_; (apply ol_as; exact rfl; exact rfl); (apply ol_as; exact rfl; exact rfl); (apply ol_nil))
      | (refine cw_region_id 3 ?_; (apply ol_as; exact rfl; exact rfl); (apply ol_nil))
      | (refine cw_region_id 4 ?_; (apply ol_val; exact rfl; apply stp_pur; apply s_sliceP; exact rfl; exact ar_23; exact sz_5; exact rfl; exact (show bnd _ _ _ 16 from Exists.intro _ rfl); exact rfl; (intro h; first | exact rfl | cases h); (first | omega | (simp; omega) | (simp; done)); (first | omega | (simp; omega) | (simp; done)); (first | omega | (simp; omega) | (simp; done))); (apply ol_val; exact rfl; apply stp_pur; apply s_len; exact rfl; exact el_38); (apply ol_mv; exact rfl; exact rfl); (apply ol_nil))
      | (apply cw_cond_true; exact rfl; (first | exact rfl | assumption))
      | (apply cw_cond_false; exact rfl; (first | exact rfl | assumption))
      | apply cw_skip
      | apply cw_ret
      | apply cw_block
      | apply cw_exit
    refine ends [] (RVal.tmp rfl (RVal.tmp rfl RVal.nil)) Pick.nil ?_
    rfl
  ·
    repeat' first
      | apply cw_seq
      | (refine cw_region_id 0 ?_; (apply ol_val; exact rfl; first | (apply s_boxN; exact rfl; intro bk2) | (apply s_box1; exact rfl; exact rfl; intro bk2)); (apply ol_as; exact rfl; exact rfl); (apply ol_as; exact rfl; exact rfl); (apply ol_nil))
      | (refine cw_region_id 1 ?_; (apply ol_mv; exact rfl; exact rfl); (apply ol_val; exact rfl; apply stp_cmp; apply s_lss; exact rfl; exact rfl; all_goals (intro hc10; try (exfalso; (first | exact hc10 rfl | omega)))); all_goals (apply ol_mv; exact rfl; exact rfl); all_goals (first | (apply ol_gskip; exact rfl; exact rfl; (first | exact rfl | assumption); exact rfl) | (apply ol_gval; exact rfl; exact rfl; exact rfl; (first | exact rfl | assumption); apply stp_pur; apply s_move; exact rfl)); all_goals (first | (apply ol_gskip; exact rfl; exact rfl; (first | exact rfl | assumption); exact rfl) | (apply ol_gval; exact rfl; exact rfl; exact rfl; (first | exact rfl | assumption); apply stp_cmp; apply s_geq; exact rfl; exact rfl; all_goals (intro hc13; try (exfalso; (first | exact hc13 rfl | omega))))); all_goals (apply ol_val; exact rfl; apply stp_pur; first | (apply s_pick_t; exact rfl; (first | exact rfl | assumption); exact rfl) | (apply s_pick_f; exact rfl; (first | exact rfl | assumption); exact rfl)); all_goals (apply ol_nil))
      | (refine cw_region_id 2 ?_; (apply ol_as; exact rfl; exact rfl); (apply ol_as; exact rfl; exact rfl); (apply ol_nil))
      | (refine cw_region_id 3 ?_; (apply ol_as; exact rfl; exact rfl); (apply ol_nil))
      | (refine cw_region_id 4 ?_; (apply ol_val; exact rfl; apply stp_pur; apply s_sliceP; exact rfl; exact ar_23; exact sz_5; exact rfl; exact (show bnd _ _ _ 16 from Exists.intro _ rfl); exact rfl; (intro h; first | exact rfl | cases h); (first | omega | (simp; omega) | (simp; done)); (first | omega | (simp; omega) | (simp; done)); (first | omega | (simp; omega) | (simp; done))); (apply ol_val; exact rfl; apply stp_pur; apply s_len; exact rfl; exact el_38); (apply ol_mv; exact rfl; exact rfl); (apply ol_nil))
      | (apply cw_cond_true; exact rfl; (first | exact rfl | assumption))
      | (apply cw_cond_false; exact rfl; (first | exact rfl | assumption))
      | apply cw_skip
      | apply cw_ret
      | apply cw_block
      | apply cw_exit
    refine ends [] (RVal.tmp rfl (RVal.tmp rfl RVal.nil)) Pick.nil ?_
    rfl

theorem number_spec (w : World) {h : List Int} (hl : h.length = 32) (hb : isB h) {m : Int} (hm : 1 ≤ m ∧ m < 2305843009213693952) :
    FnC Tryd.prog 20 [.agg (flat (eK .u8) h).toArray, .int .i64 m] w (fun v _ => v = .tuple #[.int .i64 (numB h 16 % m), .int .i64 0]) := by
  refine enterF (M := View.of w) Tryd.func20 rfl rfl rfl rfl (View.le.refl _) ?_
  repeat' first
    | apply cw_seq
    | (refine cw_region_id 0 ?_; (apply ol_val; exact rfl; first | (apply s_boxN; exact rfl; intro bk2) | (apply s_box1; exact rfl; exact rfl; intro bk2)); (apply ol_as; exact rfl; exact rfl); (apply ol_as; exact rfl; exact rfl); (apply ol_nil))
    | (refine cw_region_id 1 ?_; (apply ol_mv; exact rfl; exact rfl); (apply ol_val; exact rfl; apply stp_cmp; apply s_lss; exact rfl; exact rfl; all_goals (intro hc10; try (exfalso; (first | exact hc10 rfl | omega)))); all_goals (apply ol_mv; exact rfl; exact rfl); all_goals (first | (apply ol_gskip; exact rfl; exact rfl; (first | exact rfl | assumption); exact rfl) | (apply ol_gval; exact rfl; exact rfl; exact rfl; (first | exact rfl | assumption); apply stp_pur; apply s_move; exact rfl)); all_goals (first | (apply ol_gskip; exact rfl; exact rfl; (first | exact rfl | assumption); exact rfl) | (apply ol_gval; exact rfl; exact rfl; exact rfl; (first | exact rfl | assumption); apply stp_cmp; apply s_geq; exact rfl; exact rfl; all_goals (intro hc13; try (exfalso; (first | exact hc13 rfl | omega))))); all_goals (apply ol_val; exact rfl; apply stp_pur; first | (apply s_pick_t; exact rfl; (first | exact rfl | assumption); exact rfl) | (apply s_pick_f; exact rfl; (first | exact rfl | assumption); exact rfl)); all_goals (apply ol_nil))
    | (refine cw_region_id 2 ?_; (apply ol_as; exact rfl; exact rfl); (apply ol_as; exact rfl; exact rfl); (apply ol_nil))
    | (refine cw_region_id 3 ?_; (apply ol_as; exact rfl; exact rfl); (apply ol_nil))
    | (refine cw_region_id 4 ?_; (apply ol_val; exact rfl; apply stp_pur; apply s_sliceP; exact rfl; exact ar_23; exact sz_5; exact rfl; exact (show bnd _ _ _ 16 from Exists.intro _ rfl); exact rfl; (intro h; first | exact rfl | cases h); (first | omega | (simp; omega) | (simp; done)); (first | omega | (simp; omega) | (simp; done)); (first | omega | (simp; omega) | (simp; done))); (apply ol_val; exact rfl; apply stp_pur; apply s_len; exact rfl; exact el_38); (apply ol_mv; exact rfl; exact rfl); (apply ol_nil))
    | (apply cw_cond_true; exact rfl; (first | exact rfl | assumption))
    | (apply cw_cond_false; exact rfl; (first | exact rfl | assumption))
    | apply cw_skip
    | apply cw_ret
    | apply cw_block
    | apply cw_exit
  refine cw_loopK (σ := Nat) [1, 15, 16] (by (repeat (first | exact Keep.nil | (apply Keep.cons; exact rfl)))) (fun i => [(6, .int .i64 (numB h i % m)), (17, .int .i64 i)]) (fun _ => View.of w) (fun _ => [⟨some bk2, flat (eK .u8) h, 23⟩]) (fun i => i ≤ 16) (fun i => 16 - i) 0 (by (repeat (first | exact trivial | refine And.intro rfl ?_))) (View.le.refl _) (by (repeat (first | exact Pick.nil | (apply Pick.cons; (focus ((repeat (first | exact Spl.here | apply Spl.there)); done))) | exact Pick.refl | exact Pick.skip1 | exact Pick.skip2))) (by omega) ?_
  intro i hi
  try dsimp only
  by_cases hi' : i < 16
  · have hX := num_step h i m
    have hc := hb i
    have hc2 : 0 ≤ h.getD i 0 % m ∧ h.getD i 0 % m < m := ⟨Int.emod_nonneg _ (by omega), Int.emod_lt_of_pos _ (by omega)⟩
    generalize hXd : numB h i = X at *
    have hY := Int.emod_nonneg (dblN X 8) (show m ≠ 0 by omega)
    have hY2 := Int.emod_lt_of_pos (dblN X 8) (show 0 < m by omega)
    repeat' first
      | apply cw_seq
      | (refine cw_region_id 5 ?_; (apply ol_val; exact rfl; apply stp_cmp; apply s_lss; exact rfl; exact rfl; all_goals (intro hc18; try (exfalso; (first | exact hc18 rfl | omega)))); all_goals (apply ol_nil))
      | (refine cw_region_id 6 ?_; (apply ol_val; exact rfl; apply stp_pur; first | (apply s_indexK; exact rfl; exact rfl; exact el_38; exact sz_5; (first | exact rfl | exact rfl); omega) | (apply s_indexO; exact rfl; exact rfl; exact el_38; exact sz_5; (first | exact rfl | exact rfl); omega)); (apply ol_ld; exact rfl; exact rfl; exact rfl; (first | (apply RdN.own; (focus ((repeat constructor); done)); (first | exact GetN.cons rfl GetN.nil | (apply getN_ints_app; (first | omega | (simp; omega) | (simp; done))) | (apply getN_ints; (first | omega | (simp; omega) | (simp; done))))) | (apply RdN.own; (repeat (first | exact Has.here | apply Has.there)); (apply getNK0; omega)))); (apply ol_as; exact rfl; exact rfl); (apply ol_nil))
      | (refine cw_region_id 7 ?_; (apply ol_mv; exact rfl; exact rfl); (apply ol_nil))
      | (refine cw_region_id 13 ?_; (apply ol_mv; exact rfl; exact rfl); (apply ol_as; exact rfl; exact rfl); (apply ol_as; exact rfl; exact rfl); (apply ol_nil))
      | (apply cw_cond_true; exact rfl; (first | exact rfl | assumption))
      | (apply cw_cond_false; exact rfl; (first | exact rfl | assumption))
      | apply cw_skip
      | apply cw_ret
      | apply cw_block
      | apply cw_exit
    refine cw_loopK (σ := Nat) [1, 8, 15, 16, 17] (by (repeat (first | exact Keep.nil | (apply Keep.cons; exact rfl)))) (fun j => [(6, .int .i64 (dblN X j % m)), (21, .int .i64 j)]) (fun _ => View.of w) (fun _ => [⟨some bk2, flat (eK .u8) h, 23⟩]) (fun j => j ≤ 8) (fun j => 8 - j) 0 (by (repeat (first | exact trivial | refine And.intro rfl ?_))) (View.le.refl _) (by (repeat (first | exact Pick.nil | (apply Pick.cons; (focus ((repeat (first | exact Spl.here | apply Spl.there)); done))) | exact Pick.refl | exact Pick.skip1 | exact Pick.skip2))) (by omega) ?_
    intro j hj
    try dsimp only
    by_cases hj' : j < 8
    · have hd := dbl_step X j m
      have h1 := Int.emod_nonneg (dblN X j) (show m ≠ 0 by omega)
      have h2 := Int.emod_lt_of_pos (dblN X j) (show 0 < m by omega)
      repeat' first
        | apply cw_seq
        | (refine cw_region_id 8 ?_; (apply ol_val; exact rfl; apply stp_cmp; apply s_lss; exact rfl; exact rfl; all_goals (intro hc22; try (exfalso; (first | exact hc22 rfl | omega)))); all_goals (apply ol_nil))
        | (refine cw_region_id 9 ?_; (apply ol_mv; exact rfl; exact rfl); (apply ol_mv; exact rfl; exact rfl); (apply ol_mv; exact rfl; exact rfl); (apply ol_val; exact rfl; apply s_callv; exact rfl; exact gf_30; (intro w' hw'; exact add_spec w' hm ⟨h1, h2⟩ ⟨h1, h2⟩)); (apply ol_mv; exact rfl; exact rfl); (apply ol_ex; exact rfl; exact rfl; exact rfl); (apply ol_ex; exact rfl; exact rfl; exact rfl); (apply ol_as; exact rfl; exact rfl); (apply ol_nil))
        | (refine cw_region_id 10 ?_; (apply ol_val; exact rfl; apply stp_pur; apply s_add64; exact rfl; exact rfl; omega); (apply ol_mv; exact rfl; exact rfl); (apply ol_nil))
        | (refine cw_region_id 11 ?_; (apply ol_mv; exact rfl; exact rfl); (apply ol_mv; exact rfl; exact rfl); (apply ol_val; exact rfl; apply stp_pur; first | (apply s_conv; exact rfl; exact rfl; exact ti_3; (focus (apply wrap_i64; omega))) | (apply s_conv; exact rfl; exact rfl; exact ti_3; exact rfl)); (apply ol_mv; exact rfl; exact rfl); (apply ol_val; exact rfl; apply stp_pur; first | (apply s_rem64; exact rfl; exact rfl; omega) | (apply s_remT; exact rfl; exact rfl; omega)); (apply ol_mv; exact rfl; exact rfl); (apply ol_val; exact rfl; apply s_callv; exact rfl; exact gf_30; (intro w' hw'; exact add_spec w' hm ⟨h1, h2⟩ ⟨h1, h2⟩)); (apply ol_mv; exact rfl; exact rfl); (apply ol_ex; exact rfl; exact rfl; exact rfl); (apply ol_ex; exact rfl; exact rfl; exact rfl); (apply ol_as; exact rfl; exact rfl); (apply ol_nil))
        | (refine cw_region_id 12 ?_; (apply ol_val; exact rfl; apply stp_pur; apply s_add64; exact rfl; exact rfl; omega); (apply ol_mv; exact rfl; exact rfl); (apply ol_nil))
        | (apply cw_cond_true; exact rfl; (first | exact rfl | assumption))
        | (apply cw_cond_false; exact rfl; (first | exact rfl | assumption))
        | apply cw_skip
        | apply cw_ret
        | apply cw_block
        | apply cw_exit
      rw [hd]
      exact ⟨j + 1, ⟨by (repeat (first | exact trivial | refine And.intro rfl ?_)), View.le.refl _, by (repeat (first | exact Pick.nil | (apply Pick.cons; (focus ((repeat (first | exact Spl.here | apply Spl.there)); done))) | exact Pick.refl | exact Pick.skip1 | exact Pick.skip2)), hj', by omega⟩⟩
    · have : j = 8 := by omega
      subst this
      repeat' first
        | apply cw_seq
        | (refine cw_region_id 8 ?_; (apply ol_val; exact rfl; apply stp_cmp; apply s_lss; exact rfl; exact rfl; all_goals (intro hc22; try (exfalso; (first | exact hc22 rfl | omega)))); all_goals (apply ol_nil))
        | (refine cw_region_id 9 ?_; (apply ol_mv; exact rfl; exact rfl); (apply ol_mv; exact rfl; exact rfl); (apply ol_mv; exact rfl; exact rfl); (apply ol_val; exact rfl; apply s_callv; exact rfl; exact gf_30; (intro w' hw'; exact add_spec w' hm ⟨hY, hY2⟩ hc2)); (apply ol_mv; exact rfl; exact rfl); (apply ol_ex; exact rfl; exact rfl; exact rfl); (apply ol_ex; exact rfl; exact rfl; exact rfl); (apply ol_as; exact rfl; exact rfl); (apply ol_nil))
        | (refine cw_region_id 10 ?_; (apply ol_val; exact rfl; apply stp_pur; apply s_add64; exact rfl; exact rfl; omega); (apply ol_mv; exact rfl; exact rfl); (apply ol_nil))
        | (refine cw_region_id 11 ?_; (apply ol_mv; exact rfl; exact rfl); (apply ol_mv; exact rfl; exact rfl); (apply ol_val; exact rfl; apply stp_pur; first | (apply s_conv; exact rfl; exact rfl; exact ti_3; (focus (apply wrap_i64; omega))) | (apply s_conv; exact rfl; exact rfl; exact ti_3; exact rfl)); (apply ol_mv; exact rfl; exact rfl); (apply ol_val; exact rfl; apply stp_pur; first | (apply s_rem64; exact rfl; exact rfl; omega) | (apply s_remT; exact rfl; exact rfl; omega)); (apply ol_mv; exact rfl; exact rfl); (apply ol_val; exact rfl; apply s_callv; exact rfl; exact gf_30; (intro w' hw'; exact add_spec w' hm ⟨hY, hY2⟩ hc2)); (apply ol_mv; exact rfl; exact rfl); (apply ol_ex; exact rfl; exact rfl; exact rfl); (apply ol_ex; exact rfl; exact rfl; exact rfl); (apply ol_as; exact rfl; exact rfl); (apply ol_nil))
        | (refine cw_region_id 12 ?_; (apply ol_val; exact rfl; apply stp_pur; apply s_add64; exact rfl; exact rfl; omega); (apply ol_mv; exact rfl; exact rfl); (apply ol_nil))
        | (apply cw_cond_true; exact rfl; (first | exact rfl | assumption))
        | (apply cw_cond_false; exact rfl; (first | exact rfl | assumption))
        | apply cw_skip
        | apply cw_ret
        | apply cw_block
        | apply cw_exit
      rw [hX]
      exact ⟨i + 1, ⟨by (repeat (first | exact trivial | refine And.intro rfl ?_)), View.le.refl _, by (repeat (first | exact Pick.nil | (apply Pick.cons; (focus ((repeat (first | exact Spl.here | apply Spl.there)); done))) | exact Pick.refl | exact Pick.skip1 | exact Pick.skip2)), hi', by omega⟩⟩
  · have : i = 16 := by omega
    subst this
    repeat' first
      | apply cw_seq
      | (refine cw_region_id 5 ?_; (apply ol_val; exact rfl; apply stp_cmp; apply s_lss; exact rfl; exact rfl; all_goals (intro hc18; try (exfalso; (first | exact hc18 rfl | omega)))); all_goals (apply ol_nil))
      | (refine cw_region_id 6 ?_; (apply ol_val; exact rfl; apply stp_pur; first | (apply s_indexK; exact rfl; exact rfl; exact el_38; exact sz_5; (first | exact rfl); omega) | (apply s_indexO; exact rfl; exact rfl; exact el_38; exact sz_5; (first | exact rfl); omega)); (apply ol_ld; exact rfl; exact rfl; exact rfl; (apply RdN.own; (focus ((repeat constructor); done)); (first | exact GetN.cons rfl GetN.nil | (apply getN_ints_app; (first | omega | (simp; omega) | (simp; done))) | (apply getN_ints; (first | omega | (simp; omega) | (simp; done)))))); (apply ol_as; exact rfl; exact rfl); (apply ol_nil))
      | (refine cw_region_id 7 ?_; (apply ol_mv; exact rfl; exact rfl); (apply ol_nil))
      | (refine cw_region_id 13 ?_; (apply ol_mv; exact rfl; exact rfl); (apply ol_as; exact rfl; exact rfl); (apply ol_as; exact rfl; exact rfl); (apply ol_nil))
      | (apply cw_cond_true; exact rfl; (first | exact rfl | assumption))
      | (apply cw_cond_false; exact rfl; (first | exact rfl | assumption))
      | apply cw_skip
      | apply cw_ret
      | apply cw_block
      | apply cw_exit
    refine ends [] (RVal.tmp rfl (RVal.tmp rfl RVal.nil)) Pick.nil ?_
    rfl

theorem rreduce_spec (w : World) {a m : Int} (ha : 0 ≤ a) (hm : 1 ≤ m) : FnC Tryd.prog 33 [.int .i64 a, .int .i64 m] w (fun v _ => v = .int .i64 (a % m)) := by
  refine enterF (M := View.of w) Tryd.func33 rfl rfl rfl rfl (View.le.refl _) ?_
  have h1 := Int.emod_nonneg a (show m ≠ 0 by omega)
  repeat' first
    | apply cw_seq
    | (refine cw_region_id 0 ?_; (apply ol_as; exact rfl; exact rfl); (apply ol_nil))
    | (refine cw_region_id 1 ?_; (apply ol_mv; exact rfl; exact rfl); (apply ol_mv; exact rfl; exact rfl); (apply ol_val; exact rfl; apply stp_pur; first | (apply s_rem64; exact rfl; exact rfl; omega) | (apply s_remT; exact rfl; exact rfl; omega)); (apply ol_as; exact rfl; exact rfl); (apply ol_nil))
    | (refine cw_region_id 2 ?_; (apply ol_mv; exact rfl; exact rfl); (apply ol_val; exact rfl; apply stp_cmp; apply s_lss; exact rfl; exact rfl; all_goals (intro hc10; try (exfalso; (first | exact hc10 rfl | omega)))); all_goals (apply ol_nil))
    | (refine cw_region_id 3 ?_; (apply ol_mv; exact rfl; exact rfl); (apply ol_mv; exact rfl; exact rfl); (apply ol_val; exact rfl; apply stp_pur; apply s_add64; exact rfl; exact rfl; omega); (apply ol_as; exact rfl; exact rfl); (apply ol_nil))
    | (refine cw_region_id 4 ?_; (apply ol_mv; exact rfl; exact rfl); (apply ol_as; exact rfl; exact rfl); (apply ol_nil))
    | (apply cw_cond_true; exact rfl; (first | exact rfl | assumption))
    | (apply cw_cond_false; exact rfl; (first | exact rfl | assumption))
    | apply cw_skip
    | apply cw_ret
    | apply cw_block
    | apply cw_exit
  refine ends [] (RVal.tmp rfl RVal.nil) Pick.nil ?_
  rfl

structure MSt where
  out : Int
  a : Int
  b : Int

theorem rmul_spec (w : World) {x y m : Int} (hm : 1 ≤ m ∧ m < 2305843009213693952) (hx : 0 ≤ x ∧ x < m) (hy : 0 ≤ y ∧ y < m) : FnC Tryd.prog 34 [.int .i64 x, .int .i64 y, .int .i64 m] w (fun v _ => v = .int .i64 ((x * y) % m)) := by
  refine enterF (M := View.of w) Tryd.func34 rfl rfl rfl rfl (View.le.refl _) ?_
  by_cases hs : x < 2147483648 ∧ y < 2147483648
  · have hp : 0 ≤ x * y := Int.mul_nonneg hx.1 hy.1
    have hp2 : x * y ≤ 2147483647 * 2147483647 := Int.mul_le_mul (by omega) (by omega) hy.1 (by omega)
    repeat' first
      | apply cw_seq
      | (refine cw_region_id 0 ?_; (apply ol_as; exact rfl; exact rfl); (apply ol_nil))
      | (refine cw_region_id 1 ?_; (apply ol_mv; exact rfl; exact rfl); (apply ol_val; exact rfl; apply stp_cmp; apply s_lss; exact rfl; exact rfl; all_goals (intro hc9; try (exfalso; (first | exact hc9 rfl | omega)))); all_goals (apply ol_mv; exact rfl; exact rfl); all_goals (first | (apply ol_gskip; exact rfl; exact rfl; (first | exact rfl | assumption); exact rfl) | (apply ol_gval; exact rfl; exact rfl; exact rfl; (first | exact rfl | assumption); apply stp_pur; apply s_move; exact rfl)); all_goals (first | (apply ol_gskip; exact rfl; exact rfl; (first | exact rfl | assumption); exact rfl) | (apply ol_gval; exact rfl; exact rfl; exact rfl; (first | exact rfl | assumption); apply stp_cmp; apply s_lss; exact rfl; exact rfl; all_goals (intro hc12; try (exfalso; (first | exact hc12 rfl | omega))))); all_goals (apply ol_val; exact rfl; apply stp_pur; first | (apply s_pick_t; exact rfl; (first | exact rfl | assumption); exact rfl) | (apply s_pick_f; exact rfl; (first | exact rfl | assumption); exact rfl)); all_goals (apply ol_nil))
      | (refine cw_region_id 2 ?_; (apply ol_mv; exact rfl; exact rfl); (apply ol_mv; exact rfl; exact rfl); (apply ol_val; exact rfl; apply stp_pur; apply s_mul64; exact rfl; exact rfl; omega); (apply ol_mv; exact rfl; exact rfl); (apply ol_val; exact rfl; apply stp_pur; first | (apply s_rem64; exact rfl; exact rfl; omega) | (apply s_remT; exact rfl; exact rfl; omega)); (apply ol_as; exact rfl; exact rfl); (apply ol_nil))
      | (refine cw_region_id 3 ?_; (apply ol_as; exact rfl; exact rfl); (apply ol_nil))
      | (apply cw_cond_true; exact rfl; (first | exact rfl | assumption))
      | (apply cw_cond_false; exact rfl; (first | exact rfl | assumption))
      | apply cw_skip
      | apply cw_ret
      | apply cw_block
      | apply cw_exit
    refine ends [] (RVal.tmp rfl RVal.nil) Pick.nil ?_
    rfl
  ·
    repeat' first
      | apply cw_seq
      | (refine cw_region_id 0 ?_; (apply ol_as; exact rfl; exact rfl); (apply ol_nil))
      | (refine cw_region_id 1 ?_; (apply ol_mv; exact rfl; exact rfl); (apply ol_val; exact rfl; apply stp_cmp; apply s_lss; exact rfl; exact rfl; all_goals (intro hc9; try (exfalso; (first | exact hc9 rfl | omega)))); all_goals (apply ol_mv; exact rfl; exact rfl); all_goals (first | (apply ol_gskip; exact rfl; exact rfl; (first | exact rfl | assumption); exact rfl) | (apply ol_gval; exact rfl; exact rfl; exact rfl; (first | exact rfl | assumption); apply stp_pur; apply s_move; exact rfl)); all_goals (first | (apply ol_gskip; exact rfl; exact rfl; (first | exact rfl | assumption); exact rfl) | (apply ol_gval; exact rfl; exact rfl; exact rfl; (first | exact rfl | assumption); apply stp_cmp; apply s_lss; exact rfl; exact rfl; all_goals (intro hc12; try (exfalso; (first | exact hc12 rfl | omega))))); all_goals (apply ol_val; exact rfl; apply stp_pur; first | (apply s_pick_t; exact rfl; (first | exact rfl | assumption); exact rfl) | (apply s_pick_f; exact rfl; (first | exact rfl | assumption); exact rfl)); all_goals (apply ol_nil))
      | (refine cw_region_id 2 ?_; (apply ol_mv; exact rfl; exact rfl); (apply ol_mv; exact rfl; exact rfl); (apply ol_val; exact rfl; apply stp_pur; apply s_mul64; exact rfl; exact rfl; omega); (apply ol_mv; exact rfl; exact rfl); (apply ol_val; exact rfl; apply stp_pur; first | (apply s_rem64; exact rfl; exact rfl; omega) | (apply s_remT; exact rfl; exact rfl; omega)); (apply ol_as; exact rfl; exact rfl); (apply ol_nil))
      | (refine cw_region_id 3 ?_; (apply ol_as; exact rfl; exact rfl); (apply ol_nil))
      | (apply cw_cond_true; exact rfl; (first | exact rfl | assumption))
      | (apply cw_cond_false; exact rfl; (first | exact rfl | assumption))
      | apply cw_skip
      | apply cw_ret
      | apply cw_block
      | apply cw_exit
    iterate 2
      · refine cw_loopK (σ := MSt) [2] (by (repeat (first | exact Keep.nil | (apply Keep.cons; exact rfl)))) (fun s => [(0, .int .i64 s.a), (1, .int .i64 s.b), (7, .int .i64 s.out)]) (fun _ => View.of w) (fun _ => []) (fun s => (s.out + s.a * s.b) % m = (x * y) % m ∧ (0 ≤ s.out ∧ s.out < m) ∧ (0 ≤ s.a ∧ s.a < m) ∧ (0 ≤ s.b ∧ s.b < m)) (fun s => s.b.toNat) ⟨0, x, y⟩ (by (repeat (first | exact trivial | refine And.intro rfl ?_))) (View.le.refl _) (by (repeat (first | exact Pick.nil | (apply Pick.cons; (focus ((repeat (first | exact Spl.here | apply Spl.there)); done))) | exact Pick.refl | exact Pick.skip1 | exact Pick.skip2))) ⟨by dsimp only; rw [Int.zero_add], ⟨by dsimp only; omega, by dsimp only; omega⟩, hx, hy⟩ ?_
        rintro ⟨out, a, b⟩ ⟨e, ho, ha, hb⟩
        dsimp only at e ho ha hb
        dsimp only
        by_cases hb' : 0 < b
        · have h1 := Int.emod_nonneg (a + a) (show m ≠ 0 by omega)
          have h2 := Int.emod_lt_of_pos (a + a) (show 0 < m by omega)
          have h3 := Int.emod_nonneg (out + a) (show m ≠ 0 by omega)
          have h4 := Int.emod_lt_of_pos (out + a) (show 0 < m by omega)
          by_cases hod : b % 2 = 1
          · have hs := mul_step_odd (out := out) (a := a) (m := m) hb' hod
            repeat' first
              | apply cw_seq
              | (refine cw_region_id 4 ?_; (apply ol_mv; exact rfl; exact rfl); (apply ol_val; exact rfl; apply stp_cmp; apply s_gtr; exact rfl; exact rfl; all_goals (intro hc20; try (exfalso; (first | exact hc20 rfl | omega)))); all_goals (apply ol_nil))
              | (refine cw_region_id 5 ?_; (apply ol_mv; exact rfl; exact rfl); (apply ol_val; exact rfl; apply stp_pur; first | (apply s_rem64; exact rfl; exact rfl; omega) | (apply s_remT; exact rfl; exact rfl; omega)); (apply ol_val; exact rfl; apply stp_cmp; apply s_eql; exact rfl; exact rfl; all_goals (intro hc23; try (exfalso; (first | exact hc23 rfl | omega)))); all_goals (apply ol_nil))
              | (refine cw_region_id 6 ?_; (apply ol_mv; exact rfl; exact rfl); (apply ol_mv; exact rfl; exact rfl); (apply ol_val; exact rfl; apply stp_pur; apply s_add64; exact rfl; exact rfl; omega); (apply ol_mv; exact rfl; exact rfl); (apply ol_val; exact rfl; apply stp_pur; first | (apply s_rem64; exact rfl; exact rfl; omega) | (apply s_remT; exact rfl; exact rfl; omega)); (apply ol_as; exact rfl; exact rfl); (apply ol_nil))
              | (refine cw_region_id 7 ?_; (apply ol_mv; exact rfl; exact rfl); (apply ol_mv; exact rfl; exact rfl); (apply ol_val; exact rfl; apply stp_pur; apply s_add64; exact rfl; exact rfl; omega); (apply ol_mv; exact rfl; exact rfl); (apply ol_val; exact rfl; apply stp_pur; first | (apply s_rem64; exact rfl; exact rfl; omega) | (apply s_remT; exact rfl; exact rfl; omega)); (apply ol_as; exact rfl; exact rfl); (apply ol_nil))
              | (refine cw_region_id 8 ?_; (apply ol_mv; exact rfl; exact rfl); (apply ol_val; exact rfl; apply stp_pur; first | (apply s_quo64; exact rfl; exact rfl; omega) | (apply s_quoT; exact rfl; exact rfl; omega)); (apply ol_as; exact rfl; exact rfl); (apply ol_nil))
              | (refine cw_region_id 9 ?_; (apply ol_mv; exact rfl; exact rfl); (apply ol_as; exact rfl; exact rfl); (apply ol_nil))
              | (apply cw_cond_true; exact rfl; (first | exact rfl | assumption))
              | (apply cw_cond_false; exact rfl; (first | exact rfl | assumption))
              | apply cw_skip
              | apply cw_ret
              | apply cw_block
              | apply cw_exit
            exact ⟨⟨(out + a) % m, (a + a) % m, b / 2⟩, ⟨by (repeat (first | exact trivial | refine And.intro rfl ?_)), View.le.refl _, by (repeat (first | exact Pick.nil | (apply Pick.cons; (focus ((repeat (first | exact Spl.here | apply Spl.there)); done))) | exact Pick.refl | exact Pick.skip1 | exact Pick.skip2)), ⟨hs.trans e, ⟨h3, h4⟩, ⟨h1, h2⟩, by dsimp only; omega⟩, by dsimp only; omega⟩⟩
          · have hs := mul_step_even (out := out) (a := a) (m := m) hb' (show b % 2 = 0 by omega)
            repeat' first
              | apply cw_seq
              | (refine cw_region_id 4 ?_; (apply ol_mv; exact rfl; exact rfl); (apply ol_val; exact rfl; apply stp_cmp; apply s_gtr; exact rfl; exact rfl; all_goals (intro hc20; try (exfalso; (first | exact hc20 rfl | omega)))); all_goals (apply ol_nil))
              | (refine cw_region_id 5 ?_; (apply ol_mv; exact rfl; exact rfl); (apply ol_val; exact rfl; apply stp_pur; first | (apply s_rem64; exact rfl; exact rfl; omega) | (apply s_remT; exact rfl; exact rfl; omega)); (apply ol_val; exact rfl; apply stp_cmp; apply s_eql; exact rfl; exact rfl; all_goals (intro hc23; try (exfalso; (first | exact hc23 rfl | omega)))); all_goals (apply ol_nil))
              | (refine cw_region_id 6 ?_; (apply ol_mv; exact rfl; exact rfl); (apply ol_mv; exact rfl; exact rfl); (apply ol_val; exact rfl; apply stp_pur; apply s_add64; exact rfl; exact rfl; omega); (apply ol_mv; exact rfl; exact rfl); (apply ol_val; exact rfl; apply stp_pur; first | (apply s_rem64; exact rfl; exact rfl; omega) | (apply s_remT; exact rfl; exact rfl; omega)); (apply ol_as; exact rfl; exact rfl); (apply ol_nil))
              | (refine cw_region_id 7 ?_; (apply ol_mv; exact rfl; exact rfl); (apply ol_mv; exact rfl; exact rfl); (apply ol_val; exact rfl; apply stp_pur; apply s_add64; exact rfl; exact rfl; omega); (apply ol_mv; exact rfl; exact rfl); (apply ol_val; exact rfl; apply stp_pur; first | (apply s_rem64; exact rfl; exact rfl; omega) | (apply s_remT; exact rfl; exact rfl; omega)); (apply ol_as; exact rfl; exact rfl); (apply ol_nil))
              | (refine cw_region_id 8 ?_; (apply ol_mv; exact rfl; exact rfl); (apply ol_val; exact rfl; apply stp_pur; first | (apply s_quo64; exact rfl; exact rfl; omega) | (apply s_quoT; exact rfl; exact rfl; omega)); (apply ol_as; exact rfl; exact rfl); (apply ol_nil))
              | (refine cw_region_id 9 ?_; (apply ol_mv; exact rfl; exact rfl); (apply ol_as; exact rfl; exact rfl); (apply ol_nil))
              | (apply cw_cond_true; exact rfl; (first | exact rfl | assumption))
              | (apply cw_cond_false; exact rfl; (first | exact rfl | assumption))
              | apply cw_skip
              | apply cw_ret
              | apply cw_block
              | apply cw_exit
            exact ⟨⟨out, (a + a) % m, b / 2⟩, ⟨by (repeat (first | exact trivial | refine And.intro rfl ?_)), View.le.refl _, by (repeat (first | exact Pick.nil | (apply Pick.cons; (focus ((repeat (first | exact Spl.here | apply Spl.there)); done))) | exact Pick.refl | exact Pick.skip1 | exact Pick.skip2)), ⟨hs.trans e, ho, ⟨h1, h2⟩, by dsimp only; omega⟩, by dsimp only; omega⟩⟩
        · have : b = 0 := by omega
          subst this
          rw [Int.mul_zero, Int.add_zero, Int.emod_eq_of_lt ho.1 ho.2] at e
          repeat' first
            | apply cw_seq
            | (refine cw_region_id 4 ?_; (apply ol_mv; exact rfl; exact rfl); (apply ol_val; exact rfl; apply stp_cmp; apply s_gtr; exact rfl; exact rfl; all_goals (intro hc20; try (exfalso; (first | exact hc20 rfl | omega)))); all_goals (apply ol_nil))
            | (refine cw_region_id 5 ?_; (apply ol_mv; exact rfl; exact rfl); (apply ol_val; exact rfl; apply stp_pur; first | (apply s_rem64; exact rfl; exact rfl; omega) | (apply s_remT; exact rfl; exact rfl; omega)); (apply ol_val; exact rfl; apply stp_cmp; apply s_eql; exact rfl; exact rfl; all_goals (intro hc23; try (exfalso; (first | exact hc23 rfl | omega)))); all_goals (apply ol_nil))
            | (refine cw_region_id 6 ?_; (apply ol_mv; exact rfl; exact rfl); (apply ol_mv; exact rfl; exact rfl); (apply ol_val; exact rfl; apply stp_pur; apply s_add64; exact rfl; exact rfl; omega); (apply ol_mv; exact rfl; exact rfl); (apply ol_val; exact rfl; apply stp_pur; first | (apply s_rem64; exact rfl; exact rfl; omega) | (apply s_remT; exact rfl; exact rfl; omega)); (apply ol_as; exact rfl; exact rfl); (apply ol_nil))
            | (refine cw_region_id 7 ?_; (apply ol_mv; exact rfl; exact rfl); (apply ol_mv; exact rfl; exact rfl); (apply ol_val; exact rfl; apply stp_pur; apply s_add64; exact rfl; exact rfl; omega); (apply ol_mv; exact rfl; exact rfl); (apply ol_val; exact rfl; apply stp_pur; first | (apply s_rem64; exact rfl; exact rfl; omega) | (apply s_remT; exact rfl; exact rfl; omega)); (apply ol_as; exact rfl; exact rfl); (apply ol_nil))
            | (refine cw_region_id 8 ?_; (apply ol_mv; exact rfl; exact rfl); (apply ol_val; exact rfl; apply stp_pur; first | (apply s_quo64; exact rfl; exact rfl; omega) | (apply s_quoT; exact rfl; exact rfl; omega)); (apply ol_as; exact rfl; exact rfl); (apply ol_nil))
            | (refine cw_region_id 9 ?_; (apply ol_mv; exact rfl; exact rfl); (apply ol_as; exact rfl; exact rfl); (apply ol_nil))
            | (apply cw_cond_true; exact rfl; (first | exact rfl | assumption))
            | (apply cw_cond_false; exact rfl; (first | exact rfl | assumption))
            | apply cw_skip
            | apply cw_ret
            | apply cw_block
            | apply cw_exit
          refine ends [] (RVal.tmp rfl RVal.nil) Pick.nil ?_
          rw [e]; rfl

theorem rnumber_spec (w : World) {h : List Int} (hl : h.length = 32) (hb : isB h) {m : Int} (hm : 1 ≤ m ∧ m < 2305843009213693952) :
    FnC Tryd.prog 22 [.agg (flat (eK .u8) h).toArray, .int .i64 m] w (fun v _ => v = .int .i64 (numB h 16 % m)) := by
  refine enterF (M := View.of w) Tryd.func22 rfl rfl rfl rfl (View.le.refl _) ?_
  repeat' first
    | apply cw_seq
    | (refine cw_region_id 0 ?_; (apply ol_val; exact rfl; first | (apply s_boxN; exact rfl; intro bk2) | (apply s_box1; exact rfl; exact rfl; intro bk2)); (apply ol_as; exact rfl; exact rfl); (apply ol_nil))
    | (refine cw_region_id 1 ?_; (apply ol_as; exact rfl; exact rfl); (apply ol_nil))
    | (refine cw_region_id 2 ?_; (apply ol_as; exact rfl; exact rfl); (apply ol_nil))
    | (apply cw_cond_true; exact rfl; (first | exact rfl | assumption))
    | (apply cw_cond_false; exact rfl; (first | exact rfl | assumption))
    | apply cw_skip
    | apply cw_ret
    | apply cw_block
    | apply cw_exit
  refine cw_loopK (σ := Nat) [1, 2] (by (repeat (first | exact Keep.nil | (apply Keep.cons; exact rfl)))) (fun i => [(5, .int .i64 (numB h i % m)), (6, .int .i64 i)]) (fun _ => View.of w) (fun _ => [⟨some bk2, flat (eK .u8) h, 23⟩]) (fun i => i ≤ 16) (fun i => 16 - i) 0 (by (repeat (first | exact trivial | refine And.intro rfl ?_))) (View.le.refl _) (by (repeat (first | exact Pick.nil | (apply Pick.cons; (focus ((repeat (first | exact Spl.here | apply Spl.there)); done))) | exact Pick.refl | exact Pick.skip1 | exact Pick.skip2))) (by omega) ?_
  intro i hi
  try dsimp only
  by_cases hi' : i < 16
  · have hX := num_step2 h i m
    have hc := hb i
    generalize hXd : numB h i = X at *
    have h1 := Int.emod_nonneg X (show m ≠ 0 by omega)
    have h2 := Int.emod_lt_of_pos X (show 0 < m by omega)
    have h3 := Int.emod_nonneg 256 (show m ≠ 0 by omega)
    have h4 := Int.emod_lt_of_pos 256 (show 0 < m by omega)
    have h5 := Int.emod_nonneg ((X % m) * (256 % m)) (show m ≠ 0 by omega)
    have h6 := Int.emod_lt_of_pos ((X % m) * (256 % m)) (show 0 < m by omega)
    have hM := fun w' => rmul_spec w' hm ⟨h1, h2⟩ ⟨h3, h4⟩
    generalize ((X % m) * (256 % m)) % m = Z at *
    have hR := fun w' => rreduce_spec w' (a := Z + h.getD i 0) (by omega) hm.1
    repeat' first
      | apply cw_seq
      | (refine cw_region_id 3 ?_; (apply ol_mv; exact rfl; exact rfl); (apply ol_val; exact rfl; apply stp_cmp; apply s_lss; exact rfl; exact rfl; all_goals (intro hc8; try (exfalso; (first | exact hc8 rfl | omega)))); all_goals (apply ol_nil))
      | (refine cw_draw (id := 5) 13 (.mv 0 (.mv 1 (.mv 2 (.mv 3 (.mv 5 (.mv 6 (.mv 7 (.mv 8 (.mv 10 (.fx 4 (.mv 9 (.fx 11 (.mv 12 (PT.nil)))))))))))))) mixed (by kernel_rfl) ?_; (apply od_mv; exact rfl; exact rfl; apply s_move; exact rfl); (apply od_mv; exact rfl; exact rfl; apply s_move; exact rfl); (apply od_mv; exact rfl; exact rfl; first | (apply s_rem64; exact rfl; exact rfl; omega) | (apply s_remT; exact rfl; exact rfl; omega)); (apply od_mv; exact rfl; exact rfl; apply s_move; exact rfl); (apply od_mv; exact rfl; exact rfl; apply s_move; exact rfl); (apply od_mv; exact rfl; exact rfl; first | (apply s_indexAK; exact rfl; exact rfl; exact ar_23; exact sz_5; omega) | (apply s_indexAO; exact rfl; exact rfl; exact ar_23; exact sz_5; omega)); (apply od_mv; exact rfl; exact rfl; apply s_load1; exact rfl; exact rfl; (first | (apply RdN.own; (focus ((repeat constructor); done)); (first | exact GetN.cons rfl GetN.nil | (apply getN_ints_app; (first | omega | (simp; omega) | (simp; done))) | (apply getN_ints; (first | omega | (simp; omega) | (simp; done))))) | (apply RdN.own; (repeat (first | exact Has.here | apply Has.there)); (apply getNK0; omega)))); (apply od_mv; exact rfl; exact rfl; first | (apply s_conv; exact rfl; exact rfl; exact ti_3; (focus (apply wrap_i64; omega))) | (apply s_conv; exact rfl; exact rfl; exact ti_3; exact rfl)); (apply od_mv; exact rfl; exact rfl; apply s_move; exact rfl); (apply od_fx; (first | exact Wk.refl _ _ | (focus (apply Wk.mk; (first | exact View.le.refl _ | assumption | exact View.le.trans (by assumption) (by assumption)); (repeat constructor); done))); (apply fx_val; exact rfl; exact rfl; apply s_callv; exact rfl; exact gf_34; (intro w' hw'; exact hM w'))); (apply od_mv; exact rfl; exact rfl; apply s_add64; exact rfl; exact rfl; omega); (apply od_fx; (first | exact Wk.refl _ _ | (focus (apply Wk.mk; (first | exact View.le.refl _ | assumption | exact View.le.trans (by assumption) (by assumption)); (repeat constructor); done))); (apply fx_val; exact rfl; exact rfl; apply s_callv; exact rfl; exact gf_33; (intro w' hw'; exact hR w'))); (apply od_mv; exact rfl; exact rfl; apply s_assign; exact rfl); (apply od_nil; (first | exact Wk.refl _ _ | (focus (apply Wk.mk; (first | exact View.le.refl _ | assumption | exact View.le.trans (by assumption) (by assumption)); (repeat constructor); done)))); (apply ol_nil))
      | (refine cw_region_id 4 ?_; (apply ol_mv; exact rfl; exact rfl); (apply ol_val; exact rfl; apply stp_pur; apply s_add64; exact rfl; exact rfl; omega); (apply ol_as; exact rfl; exact rfl); (apply ol_nil))
      | (refine cw_region_id 6 ?_; (apply ol_mv; exact rfl; exact rfl); (apply ol_as; exact rfl; exact rfl); (apply ol_nil))
      | (apply cw_cond_true; exact rfl; (first | exact rfl | assumption))
      | (apply cw_cond_false; exact rfl; (first | exact rfl | assumption))
      | apply cw_skip
      | apply cw_ret
      | apply cw_block
      | apply cw_exit
    rw [hX]
    exact ⟨i + 1, ⟨by (repeat (first | exact trivial | refine And.intro rfl ?_)), View.le.refl _, by (repeat (first | exact Pick.nil | (apply Pick.cons; (focus ((repeat (first | exact Spl.here | apply Spl.there)); done))) | exact Pick.refl | exact Pick.skip1 | exact Pick.skip2)), hi', by omega⟩⟩
  · have : i = 16 := by omega
    subst this
    repeat' first
      | apply cw_seq
      | (refine cw_region_id 3 ?_; (apply ol_mv; exact rfl; exact rfl); (apply ol_val; exact rfl; apply stp_cmp; apply s_lss; exact rfl; exact rfl; all_goals (intro hc8; try (exfalso; (first | exact hc8 rfl | omega)))); all_goals (apply ol_nil))
      | (refine cw_draw (id := 5) 13 (.mv 0 (.mv 1 (.mv 2 (.mv 3 (.mv 5 (.mv 6 (.mv 7 (.mv 8 (.mv 10 (.fx 4 (.mv 9 (.fx 11 (.mv 12 (PT.nil)))))))))))))) mixed (by kernel_rfl) ?_; (apply od_mv; exact rfl; exact rfl; apply s_move; exact rfl); (apply od_mv; exact rfl; exact rfl; apply s_move; exact rfl); (apply od_mv; exact rfl; exact rfl; first | (apply s_rem64; exact rfl; exact rfl; omega) | (apply s_remT; exact rfl; exact rfl; omega)); (apply od_mv; exact rfl; exact rfl; apply s_move; exact rfl); (apply od_mv; exact rfl; exact rfl; apply s_move; exact rfl); (apply od_mv; exact rfl; exact rfl; first | (apply s_indexAK; exact rfl; exact rfl; exact ar_23; exact sz_5; omega) | (apply s_indexAO; exact rfl; exact rfl; exact ar_23; exact sz_5; omega)); (apply od_mv; exact rfl; exact rfl; apply s_load1; exact rfl; exact rfl; (apply RdN.own; (focus ((repeat constructor); done)); (first | exact GetN.cons rfl GetN.nil | (apply getN_ints_app; (first | omega | (simp; omega) | (simp; done))) | (apply getN_ints; (first | omega | (simp; omega) | (simp; done)))))); (apply od_mv; exact rfl; exact rfl; first | (apply s_conv; exact rfl; exact rfl; exact ti_3; (focus (apply wrap_i64; omega))) | (apply s_conv; exact rfl; exact rfl; exact ti_3; exact rfl)); (apply od_mv; exact rfl; exact rfl; apply s_move; exact rfl))
      | (refine cw_region_id 4 ?_; (apply ol_mv; exact rfl; exact rfl); (apply ol_val; exact rfl; apply stp_pur; apply s_add64; exact rfl; exact rfl; omega); (apply ol_as; exact rfl; exact rfl); (apply ol_nil))
      | (refine cw_region_id 6 ?_; (apply ol_mv; exact rfl; exact rfl); (apply ol_as; exact rfl; exact rfl); (apply ol_nil))
      | (apply cw_cond_true; exact rfl; (first | exact rfl | assumption))
      | (apply cw_cond_false; exact rfl; (first | exact rfl | assumption))
      | apply cw_skip
      | apply cw_ret
      | apply cw_block
      | apply cw_exit
    refine ends [] (RVal.tmp rfl RVal.nil) Pick.nil ?_
    rfl
end Go.Proofs.YtkbbbflojebfgaaDoor

/-
  Numbers and their digits, in plain words: little-endian digits of a base, the count of the digits, the texts.
-/
namespace Go.Proofs.YtkbbbflojebfgaaDoor
set_option maxRecDepth 20000
set_option linter.unusedSimpArgs false
set_option linter.unusedVariables false

/-- The first k digits of n, the lowest one first. -/
def lw (b k n : Nat) : List Nat := (List.range k).map fun i => n / b ^ i % b

theorem lw_length (b k n : Nat) : (lw b k n).length = k := by simp [lw]
theorem lw_get {b k n i : Nat} (h : i < (lw b k n).length) : (lw b k n)[i] = n / b ^ i % b := by simp [lw]
theorem lw_zero (b n : Nat) : lw b 0 n = [] := rfl
theorem lw_succ (b k n : Nat) : lw b (k + 1) n = lw b k n ++ [n / b ^ k % b] := by simp [lw, List.range_succ]
theorem lw_add (b j k n : Nat) : lw b (j + k) n = lw b j n ++ lw b k (n / b ^ j) := by
  induction k with
  | zero => simp [lw_zero]
  | succ k ih =>
    rw [← Nat.add_assoc, lw_succ, lw_succ, ih, List.append_assoc, Nat.div_div_eq_div_mul, Nat.pow_add]
theorem lw_cons (b k n : Nat) : lw b (k + 1) n = n % b :: lw b k (n / b) := by
  rw [Nat.add_comm, lw_add, Nat.pow_one]
  simp [lw, List.range_succ]
theorem lw_mod {b j k : Nat} (n : Nat) (h : k ≤ j) : lw b k (n % b ^ j) = lw b k n := by
  unfold lw
  refine List.map_congr_left fun i hi => ?_
  have hi : i < k := List.mem_range.1 hi
  obtain ⟨m, rfl⟩ : ∃ m, j = i + (m + 1) := ⟨j - i - 1, by omega⟩
  rw [Nat.pow_add, Nat.mod_mul_right_div_self, Nat.mod_mod_of_dvd _ (by rw [Nat.pow_succ]; exact Nat.dvd_mul_left _ _)]
theorem lw_lt {b : Nat} (hb : 0 < b) (k n : Nat) : ∀ x ∈ lw b k n, x < b := by
  intro x hx
  obtain ⟨i, _, rfl⟩ := List.mem_map.1 hx
  exact Nat.mod_lt _ hb
theorem lw_take {b j k : Nat} (n : Nat) (h : j ≤ k) : (lw b k n).take j = lw b j n := by
  obtain ⟨m, rfl⟩ : ∃ m, k = j + m := ⟨k - j, by omega⟩
  rw [lw_add, List.take_left' (lw_length _ _ _)]

/-- The number of some digits, the lowest one first. -/
def vl (b : Nat) : List Nat → Nat
  | [] => 0
  | x :: r => x + b * vl b r
theorem vl_append (b : Nat) (l r : List Nat) : vl b (l ++ r) = vl b l + b ^ l.length * vl b r := by
  induction l with
  | nil => simp [vl]
  | cons x l ih => simp only [List.cons_append, vl, ih, List.length_cons]; rw [Nat.pow_succ, Nat.mul_add, Nat.add_assoc, Nat.mul_comm (b ^ l.length) b, Nat.mul_assoc]
theorem vl_lw (b k n : Nat) : vl b (lw b k n) = n % b ^ k := by
  induction k generalizing n with
  | zero => simp [lw_zero, vl, Nat.mod_one]
  | succ k ih => rw [lw_cons, vl, ih, Nat.pow_succ', Nat.mod_mul]
theorem lw_vl {b : Nat} : ∀ {l : List Nat}, (∀ x ∈ l, x < b) → lw b l.length (vl b l) = l
  | [], _ => rfl
  | x :: r, h => by
    have hx := h x (by simp)
    have hb : 0 < b := by omega
    rw [List.length_cons, lw_cons, vl, Nat.add_mul_mod_self_left, Nat.mod_eq_of_lt hx, Nat.add_mul_div_left _ _ hb, Nat.div_eq_of_lt hx, Nat.zero_add, lw_vl fun y hy => h y (by simp [hy])]
theorem vl_lt {b : Nat} : ∀ {l : List Nat}, (∀ x ∈ l, x < b) → vl b l < b ^ l.length
  | [], _ => by simp [vl]
  | x :: r, h => by
    have hx := h x (by simp)
    have := vl_lt (l := r) fun y hy => h y (by simp [hy])
    rw [List.length_cons, vl, Nat.pow_succ']
    have h2 : b * (vl b r + 1) ≤ b * b ^ r.length := Nat.mul_le_mul_left _ this
    rw [Nat.mul_add, Nat.mul_one] at h2
    omega

/-- How many digits a number has: none if it is 0. -/
def nd (b n : Nat) : Nat := if h : n = 0 ∨ b < 2 then 0 else nd b (n / b) + 1
termination_by n
decreasing_by exact Nat.div_lt_self (by omega) (by omega)
theorem nd_zero (b : Nat) : nd b 0 = 0 := by unfold nd; simp
theorem nd_pos {b n : Nat} (hb : 2 ≤ b) (hn : 0 < n) : nd b n = nd b (n / b) + 1 := by
  rw [nd, dif_neg (by omega)]
theorem nd_lt {b : Nat} (hb : 2 ≤ b) (n : Nat) : n < b ^ nd b n := by
  induction n using Nat.strongRecOn with
  | _ n ih =>
    by_cases h : n = 0
    · subst h; rw [nd_zero]; exact Nat.one_pos
    · rw [nd_pos hb (by omega), Nat.pow_succ]
      have := ih (n / b) (Nat.div_lt_self (by omega) (by omega))
      exact (Nat.div_lt_iff_lt_mul (by omega)).1 this
theorem nd_le {b : Nat} (hb : 2 ≤ b) {n k : Nat} (h : n < b ^ k) : nd b n ≤ k := by
  induction k generalizing n with
  | zero => obtain rfl : n = 0 := by simp at h; exact h
            rw [nd_zero]; exact Nat.zero_le _
  | succ k ih =>
    by_cases h0 : n = 0
    · subst h0; rw [nd_zero]; omega
    · rw [nd_pos hb (by omega)]
      have : n / b < b ^ k := (Nat.div_lt_iff_lt_mul (by omega)).2 (by rwa [← Nat.pow_succ])
      have := ih this
      omega
theorem nd_le_iff {b : Nat} (hb : 2 ≤ b) {n k : Nat} : nd b n ≤ k ↔ n < b ^ k :=
  ⟨fun h => Nat.lt_of_lt_of_le (nd_lt hb n) (Nat.pow_le_pow_right (by omega) h), nd_le hb⟩
theorem nd_mono {b : Nat} (hb : 2 ≤ b) {m n : Nat} (h : m ≤ n) : nd b m ≤ nd b n := nd_le hb (Nat.lt_of_le_of_lt h (nd_lt hb n))
theorem nd_zero_iff {b : Nat} (hb : 2 ≤ b) {n : Nat} : nd b n = 0 ↔ n = 0 := by
  constructor
  · intro h
    have := nd_lt hb n
    rw [h] at this
    simp at this
    exact this
  · rintro rfl; exact nd_zero b
/-- The number has so many digits exactly if it is below the power, and the highest digit is none or not 0. -/
theorem nd_eq {b : Nat} (hb : 2 ≤ b) {n k : Nat} (h : n < b ^ k) (ht : 0 < k → n / b ^ (k - 1) % b ≠ 0) : nd b n = k := by
  refine Nat.le_antisymm (nd_le hb h) ?_
  cases k with
  | zero => exact Nat.zero_le _
  | succ k =>
    refine Nat.succ_le_of_lt (Nat.not_le.1 fun hle => ?_)
    have hlt := (nd_le_iff hb).1 hle
    have := ht (by omega)
    simp only [Nat.add_sub_cancel] at this
    rw [Nat.div_eq_of_lt hlt] at this
    simp at this
theorem nd_top {b : Nat} (hb : 2 ≤ b) {n : Nat} (hn : 0 < n) : n / b ^ (nd b n - 1) % b ≠ 0 := by
  have h1 := nd_lt hb n
  have h2 : nd b n ≠ 0 := fun h => by rw [nd_zero_iff hb] at h; omega
  obtain ⟨k, hk⟩ : ∃ k, nd b n = k + 1 := ⟨nd b n - 1, by omega⟩
  rw [hk] at h1 ⊢
  simp only [Nat.add_sub_cancel]
  have h3 : ¬ n < b ^ k := fun h => by have := nd_le hb h; omega
  have h4 : n / b ^ k < b := (Nat.div_lt_iff_lt_mul (Nat.pow_pos (by omega))).2 (by rwa [Nat.pow_succ'] at h1)
  rw [Nat.mod_eq_of_lt h4]
  have := Nat.div_pos (Nat.not_lt.1 h3) (Nat.pow_pos (n := k) (show 0 < b by omega))
  omega
theorem nd_mul_add {b : Nat} (hb : 2 ≤ b) {n d : Nat} (hd : d < b) (h : 0 < n * b + d) : nd b (n * b + d) = nd b n + 1 := by
  rw [nd_pos hb h, Nat.mul_comm, Nat.mul_add_div (by omega), Nat.div_eq_of_lt hd]
  rfl

/-- Digits in chunks. -/
theorem lw_pow (b m k n : Nat) (hb : 0 < b) : (lw (b ^ m) k n).flatMap (lw b m) = lw b (m * k) n := by
  induction k generalizing n with
  | zero => simp [lw_zero]
  | succ k ih => rw [lw_cons, List.flatMap_cons, ih, Nat.mul_succ, Nat.add_comm, lw_add, lw_mod n (Nat.le_refl _)]

/-- All digits, the lowest first. -/
abbrev dg (b n : Nat) : List Nat := lw b (nd b n) n
theorem dg_vl {b : Nat} (hb : 2 ≤ b) (n : Nat) : vl b (dg b n) = n := by rw [vl_lw, Nat.mod_eq_of_lt (nd_lt hb n)]
/-- Digits are those of their number if the highest is not 0. -/
theorem dg_of {b : Nat} (hb : 2 ≤ b) {l : List Nat} (h : ∀ x ∈ l, x < b) (ht : ∀ x ∈ l.getLast?, x ≠ 0) : dg b (vl b l) = l := by
  have hl : nd b (vl b l) = l.length := by
    refine nd_eq hb (vl_lt h) fun hp => ?_
    have h1 : lw b l.length (vl b l) = l := lw_vl h
    have h2 : l.length - 1 < (lw b l.length (vl b l)).length := by rw [lw_length]; omega
    have h3 := lw_get h2
    rw [← h3]
    refine ht _ ?_
    rw [List.getLast?_eq_getElem?]
    have : l[l.length - 1]? = (lw b l.length (vl b l))[l.length - 1]? := by rw [h1]
    rw [this, List.getElem?_eq_getElem h2]
    rfl
  unfold dg
  rw [hl, lw_vl h]

/-- A digit as a letter. -/
def chr (d : Nat) : Int := if d < 10 then 48 + (d : Int) else 87 + (d : Int)
/-- The text of a number. -/
def txt (b n : Nat) : List Int := if n = 0 then [48] else (dg b n).reverse.map chr
/-- The value of a letter; 16: it is none. -/
def valc (c : Int) : Nat := if 48 ≤ c ∧ c ≤ 57 then (c - 48).toNat else if 97 ≤ c ∧ c ≤ 102 then (c - 87).toNat else 16
theorem valc_chr {d : Nat} (h : d < 16) : valc (chr d) = d := by
  unfold valc chr
  split <;> split <;> first | omega | (split <;> omega)
theorem chr_valc {c : Int} (h : valc c < 16) : chr (valc c) = c := by
  obtain ⟨v, hv⟩ : ∃ v, valc c = v := ⟨_, rfl⟩
  rw [hv] at h ⊢
  unfold valc at hv
  unfold chr
  split at hv
  · rw [if_pos (by omega)]; omega
  · split at hv
    · rw [if_neg (by omega)]; omega
    · omega
theorem chr_b {d : Nat} (h : d < 16) : 48 ≤ chr d ∧ chr d ≤ 102 := by unfold chr; split <;> omega
theorem chr_zero {d : Nat} (h : d < 16) : chr d = 48 ↔ d = 0 := by unfold chr; split <;> omega
/-- The number of a text of digits. -/
def num (b : Nat) (l : List Int) : Nat := vl b (l.map valc).reverse
theorem num_nil (b : Nat) : num b [] = 0 := rfl
theorem num_snoc (b : Nat) (l : List Int) (c : Int) : num b (l ++ [c]) = num b l * b + valc c := by
  unfold num
  simp only [List.map_append, List.map_cons, List.map_nil, List.reverse_append, List.reverse_cons, List.reverse_nil, List.nil_append, List.cons_append, vl]
  rw [Nat.mul_comm, Nat.add_comm]

theorem valc_map {b : Nat} (hb : b ≤ 16) {l : List Nat} (h : ∀ x ∈ l, x < b) : (l.map chr).map valc = l := by
  rw [List.map_map]
  conv => rhs; rw [← List.map_id l]
  exact List.map_congr_left fun x hx => valc_chr (by have := h x hx; omega)
theorem num_txt {b : Nat} (hb : 2 ≤ b) (hb2 : b ≤ 16) (n : Nat) : num b (txt b n) = n := by
  unfold txt
  split
  · rename_i h; subst h; unfold num; simp [valc, vl]
  · unfold num
    rw [valc_map hb2 (fun x hx => lw_lt (by omega) _ _ x (List.mem_reverse.1 hx)), List.reverse_reverse, dg_vl hb]
/-- What a text must be to be read. -/
def isT (b : Nat) (l : List Int) : Prop := l ≠ [] ∧ (l.head? = some 48 → l.length ≤ 1) ∧ ∀ c ∈ l, valc c < b
theorem txt_isT {b : Nat} (hb : 2 ≤ b) (hb2 : b ≤ 16) (n : Nat) : isT b (txt b n) := by
  unfold txt
  split
  · refine ⟨by simp, by simp, fun c hc => ?_⟩
    obtain rfl : c = 48 := by simpa using hc
    simp [valc]; omega
  · rename_i h
    have hn : nd b n ≠ 0 := fun h2 => h ((nd_zero_iff hb).1 h2)
    obtain ⟨k, hk⟩ : ∃ k, nd b n = k + 1 := ⟨nd b n - 1, by omega⟩
    have htop := nd_top hb (n := n) (by omega)
    have he : (dg b n).reverse = n / b ^ k % b :: (lw b k n).reverse := by unfold dg; rw [hk, lw_succ]; simp
    have hlt : n / b ^ k % b < b := Nat.mod_lt _ (by omega)
    rw [hk] at htop
    simp only [Nat.add_sub_cancel] at htop
    refine ⟨by simp [he], fun h2 => ?_, fun c hc => ?_⟩
    · rw [he, List.map_cons, List.head?_cons, Option.some.injEq, chr_zero (by omega)] at h2
      exact absurd h2 htop
    · obtain ⟨x, hx, rfl⟩ := List.mem_map.1 hc
      have := lw_lt (by omega) _ _ x (List.mem_reverse.1 hx)
      rw [valc_chr (by omega)]
      exact this
theorem txt_num {b : Nat} (hb : 2 ≤ b) (hb2 : b ≤ 16) {l : List Int} (h : isT b l) : txt b (num b l) = l := by
  obtain ⟨h0, h1, h2⟩ := h
  have hlt : ∀ x ∈ (l.map valc).reverse, x < b := by
    intro x hx
    obtain ⟨c, hc, rfl⟩ := List.mem_map.1 (List.mem_reverse.1 hx)
    exact h2 c hc
  have hchr : (l.map valc).map chr = l := by
    rw [List.map_map]
    conv => rhs; rw [← List.map_id l]
    exact List.map_congr_left fun x hx => chr_valc (by have := h2 x hx; omega)
  cases l with
  | nil => exact absurd rfl h0
  | cons c r =>
    by_cases hc : valc c = 0
    · have hc48 : c = 48 := by rw [← chr_valc (c := c) (by omega), hc]; rfl
      subst hc48
      have := h1 rfl
      have hr : r = [] := by cases r with
        | nil => rfl
        | cons => simp at this
      subst hr
      rfl
    · have hd : dg b (num b (c :: r)) = ((c :: r).map valc).reverse := by
        unfold num
        refine dg_of hb hlt fun x hx => ?_
        simp at hx
        subst hx
        exact hc
      have hn : num b (c :: r) ≠ 0 := fun h => by
        rw [h] at hd
        unfold dg at hd
        rw [nd_zero] at hd
        have := congrArg List.length hd
        simp [lw] at this
      unfold txt
      rw [if_neg hn, hd, List.reverse_reverse, hchr]
theorem num_lt {b : Nat} {l : List Int} (h : ∀ c ∈ l, valc c < b) : num b l < b ^ l.length := by
  have := vl_lt (b := b) (l := (l.map valc).reverse) fun x hx => by
    obtain ⟨c, hc, rfl⟩ := List.mem_map.1 (List.mem_reverse.1 hx)
    exact h c hc
  simpa [num] using this
end Go.Proofs.YtkbbbflojebfgaaDoor

/-
  Bytes of numbers; items and their encodings, in plain words.
-/
namespace Go.Proofs.YtkbbbflojebfgaaDoor
set_option maxRecDepth 20000
set_option linter.unusedSimpArgs false
set_option linter.unusedVariables false
open Go Go.Fw
/-- The bytes of a number, the highest first. -/
def bI (k N : Nat) : List Int := (lw 256 k N).reverse.map fun n : Nat => (n : Int)
theorem bI_length (k N : Nat) : (bI k N).length = k := by unfold bI; rw [List.length_map, List.length_reverse, lw_length]
theorem bI_zero (N : Nat) : bI 0 N = [] := rfl
theorem bI_succ (k N : Nat) : bI (k + 1) N = ((N / 256 ^ k % 256 : Nat) : Int) :: bI k N := by
  unfold bI
  rw [lw_succ, List.reverse_append, List.map_append]
  rfl
theorem bI_b (k N : Nat) : ∀ x ∈ bI k N, 0 ≤ x ∧ x ≤ 255 := by
  intro x hx
  obtain ⟨n, hn, rfl⟩ := List.mem_map.1 hx
  have := lw_lt (by decide : 0 < 256) _ _ n (List.mem_reverse.1 hn)
  omega
theorem pow8 (r : Nat) : (2 : Nat) ^ (8 * r) = 256 ^ r := by rw [Nat.pow_mul]
theorem bI_get {k N i : Nat} (h : i < k) : (bI k N)[i]? = some ((N / 256 ^ (k - 1 - i) % 256 : Nat) : Int) := by
  unfold bI
  rw [List.getElem?_map, List.getElem?_reverse (by rw [lw_length]; exact h), lw_length]
  have h2 : k - 1 - i < (lw 256 k N).length := by rw [lw_length]; omega
  rw [List.getElem?_eq_getElem h2, lw_get]
  rfl
theorem bI_take {k N i : Nat} (h : i < k) : (bI k N).take (i + 1) = (bI k N).take i ++ [((N / 256 ^ (k - 1 - i) % 256 : Nat) : Int)] := by
  have hl : i < (bI k N).length := by rw [bI_length]; exact h
  rw [List.take_succ_eq_append_getElem hl]
  congr 2
  have := bI_get (N := N) h
  rw [List.getElem?_eq_getElem hl] at this
  exact Option.some.inj this
/-- An int as a 64-bit number. -/
def u64 (n : Int) : Nat := (IntKind.u64.wrap n).toNat
theorem u64_cast (n : Int) : ((u64 n : Nat) : Int) = IntKind.u64.wrap n := by
  unfold u64
  have : 0 ≤ IntKind.u64.wrap n := by rw [wrapU64]; omega
  omega
theorem u64_nat {n : Nat} (h : n < 18446744073709551616) : u64 (n : Int) = n := by
  unfold u64
  rw [wrap_u64 (by omega)]
  omega
theorem u64_lt (n : Int) : u64 n < 18446744073709551616 := by
  have h1 := u64_cast n
  rw [wrapU64] at h1
  omega

/-- What stands at the head of an item. -/
structure Hd where
  k : Int
  n : Int
  B : Sl Int
  La : Option Addr
  Lb : Nat
  Lo : Nat
  Lc : Nat
  m : Nat
/-- An item, so deep as it is read. -/
def It : Nat → Type
  | 0 => Hd
  | d + 1 => Hd × List (It d)
def It.hd : {d : Nat} → It d → Hd
  | 0, h => h
  | _ + 1, p => p.1
def It.enc {d : Nat} (x : It d) : List Value := [.int .i64 x.hd.k, .int .i64 x.hd.n, .slice x.hd.B.a x.hd.B.xs.length x.hd.B.c, .slice x.hd.La x.hd.m x.hd.Lc]
theorem It.enc_length {d : Nat} (x : It d) : x.enc.length = 4 := rfl
theorem It.ones {d : Nat} (x : It d) : Fw.ones x.enc = true := rfl
def HdV (M : View) (h : Hd) : Prop := SlA M (eK .u8) 1 h.B.a h.B.xs h.B.b h.B.o ∧ (∀ x ∈ h.B.xs, 0 ≤ x ∧ x ≤ 255) ∧ h.B.xs.length ≤ 1073741824 ∧ h.m ≤ 1073741824
/-- The item is there. -/
def ItV (M : View) : (d : Nat) → It d → Prop
  | 0, h => HdV M h
  | d + 1, p => HdV M p.1 ∧ p.2.length = p.1.m ∧ SlA M It.enc 4 p.1.La p.2 p.1.Lb p.1.Lo ∧ ∀ x ∈ p.2, ItV M d x
theorem HdV.mono {M N : View} {h : Hd} (hv : HdV M h) (hM : View.le M N) : HdV N h := ⟨hv.1.mono hM, hv.2⟩
theorem ItV.mono {M N : View} (hM : View.le M N) : ∀ {d : Nat} {x : It d}, ItV M d x → ItV N d x
  | 0, _, h => HdV.mono h hM
  | d + 1, _, ⟨h1, h2, h3, h4⟩ => ⟨h1.mono hM, h2, h3.mono hM, fun x hx => ItV.mono hM (h4 x hx)⟩
theorem ItV.head {M : View} : ∀ {d : Nat} {x : It d}, ItV M d x → HdV M x.hd
  | 0, _, h => h
  | _ + 1, _, h => h.1
/-- Is the head of an integer, or of bytes, a valid one? -/
def okH (h : Hd) : Bool := decide (h.k = 1 ∧ h.B.xs.length = 0 ∧ h.m = 0 ∨ h.k = 2 ∧ h.n = 0 ∧ h.m = 0)
/-- Is the item valid? -/
def okI : (d : Nat) → It d → Bool
  | 0, h => okH h
  | d + 1, p => if p.1.k = 3 then decide (p.1.n = 0 ∧ p.1.B.xs.length = 0 ∧ p.1.m ≤ 1000) && p.2.all (okI d) else okH p.1
def encH (h : Hd) : List Int := if h.k = 1 then 1 :: bI 8 (u64 h.n) else 2 :: (bI 4 h.B.xs.length ++ h.B.xs)
/-- The encoding. -/
def encI : (d : Nat) → It d → List Int
  | 0, h => encH h
  | d + 1, p => if p.1.k = 3 then 3 :: (bI 4 p.1.m ++ p.2.flatMap (encI d)) else encH p.1
theorem encH_b {M : View} {h : Hd} (hv : HdV M h) : ∀ x ∈ encH h, 0 ≤ x ∧ x ≤ 255 := by
  intro x hx
  unfold encH at hx
  split at hx
  · rcases List.mem_cons.1 hx with rfl | hx
    · omega
    · exact bI_b _ _ x hx
  · rcases List.mem_cons.1 hx with rfl | hx
    · omega
    · rcases List.mem_append.1 hx with hx | hx
      · exact bI_b _ _ x hx
      · exact hv.2.1 x hx
theorem encI_b {M : View} : ∀ {d : Nat} {x : It d}, ItV M d x → ∀ y ∈ encI d x, 0 ≤ y ∧ y ≤ 255
  | 0, _, h => encH_b h
  | d + 1, p, ⟨h1, h2, h3, h4⟩ => by
    intro y hy
    unfold encI at hy
    split at hy
    · rcases List.mem_cons.1 hy with rfl | hy
      · omega
      · rcases List.mem_append.1 hy with hy | hy
        · exact bI_b _ _ y hy
        · obtain ⟨x, hx, hy⟩ := List.mem_flatMap.1 hy
          exact encI_b (h4 x hx) y hy
    · exact encH_b h1 y hy
end Go.Proofs.YtkbbbflojebfgaaDoor

/-
  Valid items: the program's way.
-/
namespace Go.Proofs.YtkbbbflojebfgaaDoor
set_option maxRecDepth 20000
set_option linter.unusedSimpArgs false
set_option linter.unusedVariables false
open Go Go.Fw
theorem okH_1 {h : Hd} (e : h.k = 1) : okH h = decide (h.B.xs.length = 0 ∧ h.m = 0) := by unfold okH; rw [e]; simp
theorem okH_2 {h : Hd} (e : h.k = 2) : okH h = decide (h.n = 0 ∧ h.m = 0) := by unfold okH; rw [e]; simp
theorem okH_0 {h : Hd} (e1 : h.k ≠ 1) (e2 : h.k ≠ 2) : okH h = false := by unfold okH; simp [e1, e2]
theorem okI_leaf {d : Nat} {x : It d} (h3 : x.hd.k ≠ 3 ∨ d = 0) : okI d x = okH x.hd := by
  cases d with
  | zero => rfl
  | succ d =>
    have h : ¬ x.1.k = 3 := by rcases h3 with h | h; exact h; omega
    unfold okI
    rw [if_neg h]
    rfl
end Go.Proofs.YtkbbbflojebfgaaDoor
namespace Go.Proofs.YtkbbbflojebfgaaDoor
set_option maxRecDepth 20000
set_option linter.unusedSimpArgs false
set_option linter.unusedVariables false
open Go Go.Fw
attribute [local irreducible] CW OL OD FX Stp FnC FnV Ret
set_option maxHeartbeats 800000
theorem anyItIdx_spec {dd : Nat} {M : View} {w : World} (hM : View.le M (View.of w)) {f : Nat} {cap : List Value} {p : (It dd) → Bool} (hg : goFunc Tryd.prog f = true) {xs : List (It dd)} (hp : ∀ (w' : World) (x : (It dd)), x ∈ xs → View.le M (View.of w') → FnC Tryd.prog f ([.agg x.enc.toArray] ++ cap) w' (fun v _ => v = .bool (p x)))
    {i : Int} (hi : idxI p xs = i) {n : Nat} (hn : xs.length = n) {a : Option Addr} {b o c : Nat} (s : SlA M It.enc 4 a xs b o) (hl : xs.length ≤ 4611686018427387904) :
    FnC Tryd.prog 59 [.slice a n c, .func (.func f) #[] cap.toArray] w (fun v _ => v = .int .i64 i) := by
  subst hi hn
  refine enterF (M := M) Tryd.func59 rfl rfl rfl rfl hM ?_
  repeat' first
    | apply cw_seq
    | (refine cw_region_id 0 ?_; (apply ol_as; exact rfl; exact rfl); (apply ol_nil))
    | (refine cw_region_id 1 ?_; (apply ol_mv; exact rfl; exact rfl); (apply ol_val; exact rfl; apply stp_pur; apply s_len; exact rfl; exact el_39); (apply ol_mv; exact rfl; exact rfl); (apply ol_nil))
    | (apply cw_cond_true; exact rfl; (first | exact rfl | assumption))
    | (apply cw_cond_false; exact rfl; (first | exact rfl | assumption))
    | apply cw_skip
    | apply cw_ret
    | apply cw_block
    | apply cw_exit
  refine cw_loopK (σ := Nat) [0, 1, 7] (by (repeat (first | exact Keep.nil | (apply Keep.cons; exact rfl)))) (fun k => [(8, .int .i64 k)]) (fun _ => M) (fun _ => []) (fun k => k ≤ xs.length ∧ (xs.take k).any p = false) (fun k => xs.length - k) 0 (by (repeat (first | exact trivial | refine And.intro rfl ?_))) (View.le.refl _) (by (repeat (first | exact Pick.nil | (apply Pick.cons; (focus ((repeat (first | exact Spl.here | apply Spl.there)); done))) | exact Pick.refl | exact Pick.skip1 | exact Pick.skip2))) ⟨by omega, by simp⟩ ?_
  intro k ⟨hk, ht⟩
  by_cases hk' : k < xs.length
  · have hsp : xs = xs.take k ++ xs[k] :: xs.drop (k + 1) := by simp
    cases hpx : p xs[k] with
    | true =>
      repeat' first
        | apply cw_seq
        | (refine cw_region_id 2 ?_; (apply ol_val; exact rfl; apply stp_cmp; apply s_lss; exact rfl; exact rfl; all_goals (intro _; try (exfalso; (first | (rename_i hh; exact hh rfl) | omega)))); all_goals (apply ol_nil))
        | (refine cw_region_id 3 ?_; (apply ol_mv; exact rfl; exact rfl); (apply ol_as; exact rfl; exact rfl); (apply ol_nil))
        | (refine cw_region_id 4 ?_; (apply ol_mv; exact rfl; exact rfl); (apply ol_mv; exact rfl; exact rfl); (apply ol_mv; exact rfl; exact rfl); (apply ol_val; exact rfl; apply stp_pur; first | (apply s_indexK; exact rfl; exact rfl; exact el_39; exact sz_41; (first | exact rfl | exact s.at_ (by omega)); omega) | (apply s_indexO; exact rfl; exact rfl; exact el_39; exact sz_41; (first | exact rfl | exact s.at_ (by omega)); omega)); (apply ol_ldN; exact rfl; exact rfl; exact rfl; exact sz_41; (first | (apply RdN.own; (focus ((repeat constructor); done)); (focus ((repeat (first | exact rfl | constructor)); done))) | (apply RdN.view; exact s.cells _ (by omega)))); (apply ol_val; exact rfl; (apply s_clov (fs := []); exact rfl; exact rfl; exact hg; (intro w' hw'; exact hp w' xs[k] (List.getElem_mem _) hw'.le); rw [hpx])); all_goals (apply ol_nil))
        | (refine cw_region_id 5 ?_; (apply ol_mv; exact rfl; exact rfl); (apply ol_as; exact rfl; exact rfl); (apply ol_nil))
        | (refine cw_region_id 6 ?_; (apply ol_val; exact rfl; apply stp_pur; apply s_add64; exact rfl; exact rfl; omega); (apply ol_mv; exact rfl; exact rfl); (apply ol_nil))
        | (refine cw_region_id 7 ?_; (apply ol_as; exact rfl; exact rfl); (apply ol_nil))
        | (apply cw_cond_true; exact rfl; (first | exact rfl | assumption))
        | (apply cw_cond_false; exact rfl; (first | exact rfl | assumption))
        | apply cw_skip
        | apply cw_ret
        | apply cw_block
        | apply cw_exit
      refine ends [] (RVal.tmp rfl RVal.nil) Pick.nil ?_
      rw [idxI_first hk' ht hpx]
      rfl
    | false =>
      repeat' first
        | apply cw_seq
        | (refine cw_region_id 2 ?_; (apply ol_val; exact rfl; apply stp_cmp; apply s_lss; exact rfl; exact rfl; all_goals (intro _; try (exfalso; (first | (rename_i hh; exact hh rfl) | omega)))); all_goals (apply ol_nil))
        | (refine cw_region_id 3 ?_; (apply ol_mv; exact rfl; exact rfl); (apply ol_as; exact rfl; exact rfl); (apply ol_nil))
        | (refine cw_region_id 4 ?_; (apply ol_mv; exact rfl; exact rfl); (apply ol_mv; exact rfl; exact rfl); (apply ol_mv; exact rfl; exact rfl); (apply ol_val; exact rfl; apply stp_pur; first | (apply s_indexK; exact rfl; exact rfl; exact el_39; exact sz_41; (first | exact rfl | exact s.at_ (by omega)); omega) | (apply s_indexO; exact rfl; exact rfl; exact el_39; exact sz_41; (first | exact rfl | exact s.at_ (by omega)); omega)); (apply ol_ldN; exact rfl; exact rfl; exact rfl; exact sz_41; (first | (apply RdN.own; (focus ((repeat constructor); done)); (focus ((repeat (first | exact rfl | constructor)); done))) | (apply RdN.view; exact s.cells _ (by omega)))); (apply ol_val; exact rfl; (apply s_clov (fs := []); exact rfl; exact rfl; exact hg; (intro w' hw'; exact hp w' xs[k] (List.getElem_mem _) hw'.le); rw [hpx])); all_goals (apply ol_nil))
        | (refine cw_region_id 5 ?_; (apply ol_mv; exact rfl; exact rfl); (apply ol_as; exact rfl; exact rfl); (apply ol_nil))
        | (refine cw_region_id 6 ?_; (apply ol_val; exact rfl; apply stp_pur; apply s_add64; exact rfl; exact rfl; omega); (apply ol_mv; exact rfl; exact rfl); (apply ol_nil))
        | (refine cw_region_id 7 ?_; (apply ol_as; exact rfl; exact rfl); (apply ol_nil))
        | (apply cw_cond_true; exact rfl; (first | exact rfl | assumption))
        | (apply cw_cond_false; exact rfl; (first | exact rfl | assumption))
        | apply cw_skip
        | apply cw_ret
        | apply cw_block
        | apply cw_exit
      refine ⟨k + 1, ⟨by (repeat (first | exact trivial | refine And.intro rfl ?_)), View.le.refl _, by (repeat (first | exact Pick.nil | (apply Pick.cons; (focus ((repeat (first | exact Spl.here | apply Spl.there)); done))) | exact Pick.refl | exact Pick.skip1 | exact Pick.skip2)), ⟨by omega, ?_⟩, by omega⟩⟩
      rw [List.take_succ_eq_append_getElem hk', List.any_append, ht]
      simp [hpx]
  · have ek : k = xs.length := by omega
    repeat' first
      | apply cw_seq
      | (refine cw_region_id 2 ?_; (apply ol_val; exact rfl; apply stp_cmp; apply s_lss; exact rfl; exact rfl; all_goals (intro _; try (exfalso; (first | (rename_i hh; exact hh rfl) | omega)))); all_goals (apply ol_nil))
      | (refine cw_region_id 3 ?_; (apply ol_mv; exact rfl; exact rfl); (apply ol_as; exact rfl; exact rfl); (apply ol_nil))
      | (refine cw_region_id 4 ?_; (apply ol_mv; exact rfl; exact rfl); (apply ol_mv; exact rfl; exact rfl); (apply ol_mv; exact rfl; exact rfl); (apply ol_val; exact rfl; apply stp_pur; first | (apply s_indexK; exact rfl; exact rfl; exact el_39; exact sz_41; (first | exact rfl); omega) | (apply s_indexO; exact rfl; exact rfl; exact el_39; exact sz_41; (first | exact rfl); omega)); (apply ol_ldN; exact rfl; exact rfl; exact rfl; exact sz_41; (apply RdN.own; (focus ((repeat constructor); done)); (focus ((repeat (first | exact rfl | constructor)); done)))))
      | (refine cw_region_id 5 ?_; (apply ol_mv; exact rfl; exact rfl); (apply ol_as; exact rfl; exact rfl); (apply ol_nil))
      | (refine cw_region_id 6 ?_; (apply ol_val; exact rfl; apply stp_pur; apply s_add64; exact rfl; exact rfl; omega); (apply ol_mv; exact rfl; exact rfl); (apply ol_nil))
      | (refine cw_region_id 7 ?_; (apply ol_as; exact rfl; exact rfl); (apply ol_nil))
      | (apply cw_cond_true; exact rfl; (first | exact rfl | assumption))
      | (apply cw_cond_false; exact rfl; (first | exact rfl | assumption))
      | apply cw_skip
      | apply cw_ret
      | apply cw_block
      | apply cw_exit
    refine ends [] (RVal.tmp rfl RVal.nil) Pick.nil ?_
    rw [ek, List.take_length] at ht
    simp [tup, idxI, ht]

theorem anyIt_spec {dd : Nat} {M : View} {w : World} (hM : View.le M (View.of w)) {f : Nat} {cap : List Value} {p : (It dd) → Bool} (hg : goFunc Tryd.prog f = true) {xs : List (It dd)} (hp : ∀ (w' : World) (x : (It dd)), x ∈ xs → View.le M (View.of w') → FnC Tryd.prog f ([.agg x.enc.toArray] ++ cap) w' (fun v _ => v = .bool (p x)))
    {r : Bool} (hr : xs.any p = r) {n : Nat} (hn : xs.length = n) {a : Option Addr} {b o c : Nat} (s : SlA M It.enc 4 a xs b o) (hl : xs.length ≤ 4611686018427387904) :
    FnC Tryd.prog 56 [.slice a n c, .func (.func f) #[] cap.toArray] w (fun v _ => v = .bool r) := by
  subst hr
  refine enterF (M := M) Tryd.func56 rfl rfl rfl rfl hM ?_
  have hi := idxI_any (p := p) (xs := xs)
  cases hany : xs.any p with
  | true =>
    rw [hany] at hi
    have hi : 0 ≤ idxI p xs := hi.2 rfl
    repeat' first
      | apply cw_seq
      | (refine cw_region_id 0 ?_; (apply ol_as; exact rfl; exact rfl); (apply ol_nil))
      | (refine cw_region_id 1 ?_; (apply ol_mv; exact rfl; exact rfl); (apply ol_mv; exact rfl; exact rfl); (apply ol_val; exact rfl; apply s_callv; exact rfl; exact gf_59; (intro w' hw'; exact anyItIdx_spec (View.le.refl (View.of w')) (p := p) hg (fun w'' x hx h => hp w'' x hx (hw'.le.trans h)) rfl hn (s.mono hw'.le) hl)); (apply ol_val; exact rfl; apply stp_cmp; apply s_geq; exact rfl; exact rfl; all_goals (intro _; try (exfalso; (first | (rename_i hh; exact hh rfl) | omega)))); all_goals (apply ol_as; exact rfl; exact rfl); all_goals (apply ol_nil))
      | (apply cw_cond_true; exact rfl; (first | exact rfl | assumption))
      | (apply cw_cond_false; exact rfl; (first | exact rfl | assumption))
      | apply cw_skip
      | apply cw_ret
      | apply cw_block
      | apply cw_exit
    refine ends [] (RVal.tmp rfl RVal.nil) Pick.nil ?_
    rfl
  | false =>
    rw [hany] at hi
    have hi : ¬ 0 ≤ idxI p xs := fun h => by have := hi.1 h; cases this
    repeat' first
      | apply cw_seq
      | (refine cw_region_id 0 ?_; (apply ol_as; exact rfl; exact rfl); (apply ol_nil))
      | (refine cw_region_id 1 ?_; (apply ol_mv; exact rfl; exact rfl); (apply ol_mv; exact rfl; exact rfl); (apply ol_val; exact rfl; apply s_callv; exact rfl; exact gf_59; (intro w' hw'; exact anyItIdx_spec (View.le.refl (View.of w')) (p := p) hg (fun w'' x hx h => hp w'' x hx (hw'.le.trans h)) rfl hn (s.mono hw'.le) hl)); (apply ol_val; exact rfl; apply stp_cmp; apply s_geq; exact rfl; exact rfl; all_goals (intro _; try (exfalso; (first | (rename_i hh; exact hh rfl) | omega)))); all_goals (apply ol_as; exact rfl; exact rfl); all_goals (apply ol_nil))
      | (apply cw_cond_true; exact rfl; (first | exact rfl | assumption))
      | (apply cw_cond_false; exact rfl; (first | exact rfl | assumption))
      | apply cw_skip
      | apply cw_ret
      | apply cw_block
      | apply cw_exit
    refine ends [] (RVal.tmp rfl RVal.nil) Pick.nil ?_
    rfl

end Go.Proofs.YtkbbbflojebfgaaDoor

/-
  Valid items: the program's way.
-/
namespace Go.Proofs.YtkbbbflojebfgaaDoor
set_option maxRecDepth 20000
set_option linter.unusedSimpArgs false
set_option linter.unusedVariables false
open Go Go.Fw
attribute [local irreducible] CW OL OD FX Stp FnC FnV Ret
set_option maxHeartbeats 800000
theorem within_leaf {M : View} {w : World} (hM : View.le M (View.of w)) {d : Nat} {x : It d} (hv : HdV M x.hd) (h3 : x.hd.k ≠ 3 ∨ d = 0) :
    FnC Tryd.prog 50 [.agg x.enc.toArray, .int .i64 d] w (fun v _ => v = .bool (okH x.hd)) := by
  unfold It.enc
  generalize x.hd = h at *
  obtain ⟨k, n, ⟨xs, Ba, Bb, Bo, Bc⟩, La, Lb, Lo, Lc, m⟩ := h
  dsimp only at hv h3 ⊢
  refine enterF (M := M) Tryd.func50 rfl rfl rfl rfl hM ?_
  by_cases h1 : k = 1
  · rw [okH_1 h1]
    subst h1
    dsimp only
    by_cases hc : xs.length = 0 ∧ m = 0
    · rw [decide_eq_true hc]
      repeat' first
        | apply cw_seq
        | (refine cw_region_id 0 ?_; (apply ol_val; exact rfl; first | (apply s_boxN; exact rfl; intro bk2) | (apply s_box1; exact rfl; exact rfl; intro bk2)); (apply ol_val; exact rfl; first | (apply s_boxN; exact rfl; intro bk3) | (apply s_box1; exact rfl; exact rfl; intro bk3)); (apply ol_as; exact rfl; exact rfl); (apply ol_nil))
        | (refine cw_region_id 1 ?_; (apply ol_fa; exact rfl; exact rfl; exact fd_41_0; (first | exact Nat.zero_add _ | exact Nat.add_zero _ | exact rfl)); (apply ol_ld; exact rfl; exact rfl; exact rfl; (apply RdN.own; (focus ((repeat constructor); done)); (first | exact GetN.cons rfl GetN.nil | (apply getN_ints_app; (first | omega | (simp; omega) | (simp; done))) | (apply getN_ints; (first | omega | (simp; omega) | (simp; done)))))); (apply ol_nil))
        | (refine cw_region_id 2 ?_; (apply ol_val; exact rfl; apply stp_cmp; apply s_eql; exact rfl; exact rfl; all_goals (intro hc8; try (exfalso; (first | exact hc8 rfl | omega)))); all_goals (apply ol_as; exact rfl; exact rfl); all_goals (apply ol_nil))
        | (refine cw_region_id 3 ?_; (apply ol_fa; exact rfl; exact rfl; exact fd_41_2; (first | exact Nat.zero_add _ | exact Nat.add_zero _ | exact rfl)); (apply ol_ld; exact rfl; exact rfl; exact rfl; (apply RdN.own; (focus ((repeat constructor); done)); exact GetN.cons rfl GetN.nil)); (apply ol_val; exact rfl; apply stp_pur; apply s_len; exact rfl; exact el_38); (apply ol_val; exact rfl; apply stp_cmp; apply s_eql; exact rfl; exact rfl; all_goals (intro hc12; try (exfalso; (first | exact hc12 rfl | omega)))); all_goals (apply ol_mv; exact rfl; exact rfl); all_goals (first | (apply ol_gskip; exact rfl; exact rfl; (first | exact rfl | assumption); exact rfl) | (apply ol_gval; exact rfl; exact rfl; exact rfl; (first | exact rfl | assumption); apply stp_pur; apply s_fieldAddr'; exact rfl; exact fd_41_3; (first | exact Nat.zero_add _ | exact Nat.add_zero _ | exact rfl))); all_goals (first | (apply ol_gskip; exact rfl; exact rfl; (first | exact rfl | assumption); exact rfl) | (apply ol_gval; exact rfl; exact rfl; exact rfl; (first | exact rfl | assumption); apply stp_pur; apply s_load1; exact rfl; exact rfl; (apply RdN.own; (focus ((repeat constructor); done)); exact GetN.cons rfl GetN.nil))); all_goals (first | (apply ol_gskip; exact rfl; exact rfl; (first | exact rfl | assumption); exact rfl) | (apply ol_gval; exact rfl; exact rfl; exact rfl; (first | exact rfl | assumption); apply stp_pur; apply s_len; exact rfl; exact el_39)); all_goals (first | (apply ol_gskip; exact rfl; exact rfl; (first | exact rfl | assumption); exact rfl) | (apply ol_gval; exact rfl; exact rfl; exact rfl; (first | exact rfl | assumption); apply stp_cmp; apply s_eql; exact rfl; exact rfl; all_goals (intro hc17; try (exfalso; (first | exact hc17 rfl | omega))))); all_goals (apply ol_val; exact rfl; apply stp_pur; first | (apply s_pick_t; exact rfl; (first | exact rfl | assumption); exact rfl) | (apply s_pick_f; exact rfl; (first | exact rfl | assumption); exact rfl)); all_goals (apply ol_as; exact rfl; exact rfl); all_goals (apply ol_nil))
        | (refine cw_region_id 4 ?_; (apply ol_val; exact rfl; apply stp_cmp; apply s_eql; exact rfl; exact rfl; all_goals (intro hc20; try (exfalso; (first | exact hc20 rfl | omega)))); all_goals (apply ol_as; exact rfl; exact rfl); all_goals (apply ol_nil))
        | (refine cw_region_id 5 ?_; (apply ol_fa; exact rfl; exact rfl; exact fd_41_1; (first | exact Nat.zero_add _ | exact Nat.add_zero _ | exact rfl)); (apply ol_ld; exact rfl; exact rfl; exact rfl; (apply RdN.own; (focus ((repeat constructor); done)); (first | exact GetN.cons rfl GetN.nil | (apply getN_ints_app; (first | omega | (simp; omega) | (simp; done))) | (apply getN_ints; (first | omega | (simp; omega) | (simp; done)))))); (apply ol_val; exact rfl; apply stp_cmp; apply s_eql; exact rfl; exact rfl; all_goals (intro hc23; try (exfalso; (first | exact hc23 rfl | omega)))); all_goals (apply ol_mv; exact rfl; exact rfl); all_goals (first | (apply ol_gskip; exact rfl; exact rfl; (first | exact rfl | assumption); exact rfl) | (apply ol_gval; exact rfl; exact rfl; exact rfl; (first | exact rfl | assumption); apply stp_pur; apply s_fieldAddr'; exact rfl; exact fd_41_3; (first | exact Nat.zero_add _ | exact Nat.add_zero _ | exact rfl))); all_goals (first | (apply ol_gskip; exact rfl; exact rfl; (first | exact rfl | assumption); exact rfl) | (apply ol_gval; exact rfl; exact rfl; exact rfl; (first | exact rfl | assumption); apply stp_pur; apply s_load1; exact rfl; exact rfl; (apply RdN.own; (focus ((repeat constructor); done)); exact GetN.cons rfl GetN.nil))); all_goals (first | (apply ol_gskip; exact rfl; exact rfl; (first | exact rfl | assumption); exact rfl) | (apply ol_gval; exact rfl; exact rfl; exact rfl; (first | exact rfl | assumption); apply stp_pur; apply s_len; exact rfl; exact el_39)); all_goals (first | (apply ol_gskip; exact rfl; exact rfl; (first | exact rfl | assumption); exact rfl) | (apply ol_gval; exact rfl; exact rfl; exact rfl; (first | exact rfl | assumption); apply stp_cmp; apply s_eql; exact rfl; exact rfl; all_goals (intro hc28; try (exfalso; (first | exact hc28 rfl | omega))))); all_goals (apply ol_val; exact rfl; apply stp_pur; first | (apply s_pick_t; exact rfl; (first | exact rfl | assumption); exact rfl) | (apply s_pick_f; exact rfl; (first | exact rfl | assumption); exact rfl)); all_goals (apply ol_as; exact rfl; exact rfl); all_goals (apply ol_nil))
        | (refine cw_region_id 6 ?_; (apply ol_val; exact rfl; apply stp_cmp; apply s_eql; exact rfl; exact rfl; all_goals (intro hc31; try (exfalso; (first | exact hc31 rfl | omega)))); all_goals (apply ol_as; exact rfl; exact rfl); all_goals (apply ol_nil))
        | (refine cw_region_id 7 ?_; (apply ol_fa; exact rfl; exact rfl; exact fd_41_1; (first | exact Nat.zero_add _ | exact Nat.add_zero _ | exact rfl)); (apply ol_ld; exact rfl; exact rfl; exact rfl; (apply RdN.own; (focus ((repeat constructor); done)); (first | exact GetN.cons rfl GetN.nil | (apply getN_ints_app; (first | omega | (simp; omega) | (simp; done))) | (apply getN_ints; (first | omega | (simp; omega) | (simp; done)))))); (apply ol_val; exact rfl; apply stp_cmp; apply s_eql; exact rfl; exact rfl; all_goals (intro hc34; try (exfalso; (first | exact hc34 rfl | omega)))); all_goals (apply ol_mv; exact rfl; exact rfl); all_goals (first | (apply ol_gskip; exact rfl; exact rfl; (first | exact rfl | assumption); exact rfl) | (apply ol_gval; exact rfl; exact rfl; exact rfl; (first | exact rfl | assumption); apply stp_pur; apply s_fieldAddr'; exact rfl; exact fd_41_2; (first | exact Nat.zero_add _ | exact Nat.add_zero _ | exact rfl))); all_goals (first | (apply ol_gskip; exact rfl; exact rfl; (first | exact rfl | assumption); exact rfl) | (apply ol_gval; exact rfl; exact rfl; exact rfl; (first | exact rfl | assumption); apply stp_pur; apply s_load1; exact rfl; exact rfl; (apply RdN.own; (focus ((repeat constructor); done)); exact GetN.cons rfl GetN.nil))); all_goals (first | (apply ol_gskip; exact rfl; exact rfl; (first | exact rfl | assumption); exact rfl) | (apply ol_gval; exact rfl; exact rfl; exact rfl; (first | exact rfl | assumption); apply stp_pur; apply s_len; exact rfl; exact el_38)); all_goals (first | (apply ol_gskip; exact rfl; exact rfl; (first | exact rfl | assumption); exact rfl) | (apply ol_gval; exact rfl; exact rfl; exact rfl; (first | exact rfl | assumption); apply stp_cmp; apply s_eql; exact rfl; exact rfl; all_goals (intro hc39; try (exfalso; (first | exact hc39 rfl | omega))))); all_goals (apply ol_val; exact rfl; apply stp_pur; first | (apply s_pick_t; exact rfl; (first | exact rfl | assumption); exact rfl) | (apply s_pick_f; exact rfl; (first | exact rfl | assumption); exact rfl)); all_goals (apply ol_mv; exact rfl; exact rfl); all_goals (first | (apply ol_gskip; exact rfl; exact rfl; (first | exact rfl | assumption); exact rfl) | (apply ol_gval; exact rfl; exact rfl; exact rfl; (first | exact rfl | assumption); apply stp_pur; apply s_load1; exact rfl; exact rfl; (apply RdN.own; (focus ((repeat constructor); done)); (first | exact GetN.cons rfl GetN.nil | (apply getN_ints_app; (first | omega | (simp; omega) | (simp; done))) | (apply getN_ints; (first | omega | (simp; omega) | (simp; done))))))); all_goals (first | (apply ol_gskip; exact rfl; exact rfl; (first | exact rfl | assumption); exact rfl) | (apply ol_gval; exact rfl; exact rfl; exact rfl; (first | exact rfl | assumption); apply stp_cmp; apply s_gtr; exact rfl; exact rfl; all_goals (intro hc43; try (exfalso; (first | exact hc43 rfl | omega))))); all_goals (apply ol_val; exact rfl; apply stp_pur; first | (apply s_pick_t; exact rfl; (first | exact rfl | assumption); exact rfl) | (apply s_pick_f; exact rfl; (first | exact rfl | assumption); exact rfl)); all_goals (apply ol_mv; exact rfl; exact rfl); all_goals (first | (apply ol_gskip; exact rfl; exact rfl; (first | exact rfl | assumption); exact rfl) | (apply ol_gval; exact rfl; exact rfl; exact rfl; (first | exact rfl | assumption); apply stp_pur; apply s_fieldAddr'; exact rfl; exact fd_41_3; (first | exact Nat.zero_add _ | exact Nat.add_zero _ | exact rfl))); all_goals (first | (apply ol_gskip; exact rfl; exact rfl; (first | exact rfl | assumption); exact rfl) | (apply ol_gval; exact rfl; exact rfl; exact rfl; (first | exact rfl | assumption); apply stp_pur; apply s_load1; exact rfl; exact rfl; (apply RdN.own; (focus ((repeat constructor); done)); exact GetN.cons rfl GetN.nil))); all_goals (first | (apply ol_gskip; exact rfl; exact rfl; (first | exact rfl | assumption); exact rfl) | (apply ol_gval; exact rfl; exact rfl; exact rfl; (first | exact rfl | assumption); apply stp_pur; apply s_len; exact rfl; exact el_39)); all_goals (first | (apply ol_gskip; exact rfl; exact rfl; (first | exact rfl | assumption); exact rfl) | (apply ol_gval; exact rfl; exact rfl; exact rfl; (first | exact rfl | assumption); apply stp_cmp; apply s_leq; exact rfl; exact rfl; all_goals (intro hc49; try (exfalso; (first | exact hc49 rfl | omega))))); all_goals (apply ol_val; exact rfl; apply stp_pur; first | (apply s_pick_t; exact rfl; (first | exact rfl | assumption); exact rfl) | (apply s_pick_f; exact rfl; (first | exact rfl | assumption); exact rfl)); all_goals (apply ol_mv; exact rfl; exact rfl); all_goals (first | (apply ol_gskip; exact rfl; exact rfl; (first | exact rfl | assumption); exact rfl) | (apply ol_gval; exact rfl; exact rfl; exact rfl; (first | exact rfl | assumption); apply stp_pur; apply s_fieldAddr'; exact rfl; exact fd_41_3; (first | exact Nat.zero_add _ | exact Nat.add_zero _ | exact rfl))); all_goals (first | (apply ol_gskip; exact rfl; exact rfl; (first | exact rfl | assumption); exact rfl) | (apply ol_gval; exact rfl; exact rfl; exact rfl; (first | exact rfl | assumption); apply stp_pur; apply s_load1; exact rfl; exact rfl; (apply RdN.own; (focus ((repeat constructor); done)); exact GetN.cons rfl GetN.nil))); all_goals (first | (apply ol_gskip; exact rfl; exact rfl; (first | exact rfl | assumption); exact rfl) | (apply ol_gval; exact rfl; exact rfl; exact rfl; (first | exact rfl | assumption); apply stp_pur; apply s_makeFunc; exact rfl; exact rfl)); all_goals (apply ol_gskip; exact rfl; exact rfl; (first | exact rfl | assumption); exact rfl); all_goals (first | (apply ol_gskip; exact rfl; exact rfl; (first | exact rfl | assumption); exact rfl) | (apply ol_gval; exact rfl; exact rfl; exact rfl; (first | exact rfl | assumption); apply stp_pur; first | (apply s_not_t; exact rfl; (first | exact rfl | assumption)) | (apply s_not_f; exact rfl; (first | exact rfl | assumption)) | (apply s_not; exact rfl))); all_goals (apply ol_val; exact rfl; apply stp_pur; first | (apply s_pick_t; exact rfl; (first | exact rfl | assumption); exact rfl) | (apply s_pick_f; exact rfl; (first | exact rfl | assumption); exact rfl)); all_goals (apply ol_as; exact rfl; exact rfl); all_goals (apply ol_nil))
        | (refine cw_region_id 8 ?_; (apply ol_as; exact rfl; exact rfl); (apply ol_nil))
        | (apply cw_cond_true; exact rfl; (first | exact rfl | assumption))
        | (apply cw_cond_false; exact rfl; (first | exact rfl | assumption))
        | apply cw_skip
        | apply cw_ret
        | apply cw_block
        | apply cw_exit
      all_goals (refine ends [] (RVal.tmp rfl RVal.nil) Pick.nil ?_; rfl)
    · rw [decide_eq_false hc]
      repeat' first
        | apply cw_seq
        | (refine cw_region_id 0 ?_; (apply ol_val; exact rfl; first | (apply s_boxN; exact rfl; intro bk2) | (apply s_box1; exact rfl; exact rfl; intro bk2)); (apply ol_val; exact rfl; first | (apply s_boxN; exact rfl; intro bk3) | (apply s_box1; exact rfl; exact rfl; intro bk3)); (apply ol_as; exact rfl; exact rfl); (apply ol_nil))
        | (refine cw_region_id 1 ?_; (apply ol_fa; exact rfl; exact rfl; exact fd_41_0; (first | exact Nat.zero_add _ | exact Nat.add_zero _ | exact rfl)); (apply ol_ld; exact rfl; exact rfl; exact rfl; (apply RdN.own; (focus ((repeat constructor); done)); (first | exact GetN.cons rfl GetN.nil | (apply getN_ints_app; (first | omega | (simp; omega) | (simp; done))) | (apply getN_ints; (first | omega | (simp; omega) | (simp; done)))))); (apply ol_nil))
        | (refine cw_region_id 2 ?_; (apply ol_val; exact rfl; apply stp_cmp; apply s_eql; exact rfl; exact rfl; all_goals (intro hc8; try (exfalso; (first | exact hc8 rfl | omega)))); all_goals (apply ol_as; exact rfl; exact rfl); all_goals (apply ol_nil))
        | (refine cw_region_id 3 ?_; (apply ol_fa; exact rfl; exact rfl; exact fd_41_2; (first | exact Nat.zero_add _ | exact Nat.add_zero _ | exact rfl)); (apply ol_ld; exact rfl; exact rfl; exact rfl; (apply RdN.own; (focus ((repeat constructor); done)); exact GetN.cons rfl GetN.nil)); (apply ol_val; exact rfl; apply stp_pur; apply s_len; exact rfl; exact el_38); (apply ol_val; exact rfl; apply stp_cmp; apply s_eql; exact rfl; exact rfl; all_goals (intro hc12; try (exfalso; (first | exact hc12 rfl | omega)))); all_goals (apply ol_mv; exact rfl; exact rfl); all_goals (first | (apply ol_gskip; exact rfl; exact rfl; (first | exact rfl | assumption); exact rfl) | (apply ol_gval; exact rfl; exact rfl; exact rfl; (first | exact rfl | assumption); apply stp_pur; apply s_fieldAddr'; exact rfl; exact fd_41_3; (first | exact Nat.zero_add _ | exact Nat.add_zero _ | exact rfl))); all_goals (first | (apply ol_gskip; exact rfl; exact rfl; (first | exact rfl | assumption); exact rfl) | (apply ol_gval; exact rfl; exact rfl; exact rfl; (first | exact rfl | assumption); apply stp_pur; apply s_load1; exact rfl; exact rfl; (apply RdN.own; (focus ((repeat constructor); done)); exact GetN.cons rfl GetN.nil))); all_goals (first | (apply ol_gskip; exact rfl; exact rfl; (first | exact rfl | assumption); exact rfl) | (apply ol_gval; exact rfl; exact rfl; exact rfl; (first | exact rfl | assumption); apply stp_pur; apply s_len; exact rfl; exact el_39)); all_goals (first | (apply ol_gskip; exact rfl; exact rfl; (first | exact rfl | assumption); exact rfl) | (apply ol_gval; exact rfl; exact rfl; exact rfl; (first | exact rfl | assumption); apply stp_cmp; apply s_eql; exact rfl; exact rfl; all_goals (intro hc17; try (exfalso; (first | exact hc17 rfl | omega))))); all_goals (apply ol_val; exact rfl; apply stp_pur; first | (apply s_pick_t; exact rfl; (first | exact rfl | assumption); exact rfl) | (apply s_pick_f; exact rfl; (first | exact rfl | assumption); exact rfl)); all_goals (apply ol_as; exact rfl; exact rfl); all_goals (apply ol_nil))
        | (refine cw_region_id 4 ?_; (apply ol_val; exact rfl; apply stp_cmp; apply s_eql; exact rfl; exact rfl; all_goals (intro hc20; try (exfalso; (first | exact hc20 rfl | omega)))); all_goals (apply ol_as; exact rfl; exact rfl); all_goals (apply ol_nil))
        | (refine cw_region_id 5 ?_; (apply ol_fa; exact rfl; exact rfl; exact fd_41_1; (first | exact Nat.zero_add _ | exact Nat.add_zero _ | exact rfl)); (apply ol_ld; exact rfl; exact rfl; exact rfl; (apply RdN.own; (focus ((repeat constructor); done)); (first | exact GetN.cons rfl GetN.nil | (apply getN_ints_app; (first | omega | (simp; omega) | (simp; done))) | (apply getN_ints; (first | omega | (simp; omega) | (simp; done)))))); (apply ol_val; exact rfl; apply stp_cmp; apply s_eql; exact rfl; exact rfl; all_goals (intro hc23; try (exfalso; (first | exact hc23 rfl | omega)))); all_goals (apply ol_mv; exact rfl; exact rfl); all_goals (first | (apply ol_gskip; exact rfl; exact rfl; (first | exact rfl | assumption); exact rfl) | (apply ol_gval; exact rfl; exact rfl; exact rfl; (first | exact rfl | assumption); apply stp_pur; apply s_fieldAddr'; exact rfl; exact fd_41_3; (first | exact Nat.zero_add _ | exact Nat.add_zero _ | exact rfl))); all_goals (first | (apply ol_gskip; exact rfl; exact rfl; (first | exact rfl | assumption); exact rfl) | (apply ol_gval; exact rfl; exact rfl; exact rfl; (first | exact rfl | assumption); apply stp_pur; apply s_load1; exact rfl; exact rfl; (apply RdN.own; (focus ((repeat constructor); done)); exact GetN.cons rfl GetN.nil))); all_goals (first | (apply ol_gskip; exact rfl; exact rfl; (first | exact rfl | assumption); exact rfl) | (apply ol_gval; exact rfl; exact rfl; exact rfl; (first | exact rfl | assumption); apply stp_pur; apply s_len; exact rfl; exact el_39)); all_goals (first | (apply ol_gskip; exact rfl; exact rfl; (first | exact rfl | assumption); exact rfl) | (apply ol_gval; exact rfl; exact rfl; exact rfl; (first | exact rfl | assumption); apply stp_cmp; apply s_eql; exact rfl; exact rfl; all_goals (intro hc28; try (exfalso; (first | exact hc28 rfl | omega))))); all_goals (apply ol_val; exact rfl; apply stp_pur; first | (apply s_pick_t; exact rfl; (first | exact rfl | assumption); exact rfl) | (apply s_pick_f; exact rfl; (first | exact rfl | assumption); exact rfl)); all_goals (apply ol_as; exact rfl; exact rfl); all_goals (apply ol_nil))
        | (refine cw_region_id 6 ?_; (apply ol_val; exact rfl; apply stp_cmp; apply s_eql; exact rfl; exact rfl; all_goals (intro hc31; try (exfalso; (first | exact hc31 rfl | omega)))); all_goals (apply ol_as; exact rfl; exact rfl); all_goals (apply ol_nil))
        | (refine cw_region_id 7 ?_; (apply ol_fa; exact rfl; exact rfl; exact fd_41_1; (first | exact Nat.zero_add _ | exact Nat.add_zero _ | exact rfl)); (apply ol_ld; exact rfl; exact rfl; exact rfl; (apply RdN.own; (focus ((repeat constructor); done)); (first | exact GetN.cons rfl GetN.nil | (apply getN_ints_app; (first | omega | (simp; omega) | (simp; done))) | (apply getN_ints; (first | omega | (simp; omega) | (simp; done)))))); (apply ol_val; exact rfl; apply stp_cmp; apply s_eql; exact rfl; exact rfl; all_goals (intro hc34; try (exfalso; (first | exact hc34 rfl | omega)))); all_goals (apply ol_mv; exact rfl; exact rfl); all_goals (first | (apply ol_gskip; exact rfl; exact rfl; (first | exact rfl | assumption); exact rfl) | (apply ol_gval; exact rfl; exact rfl; exact rfl; (first | exact rfl | assumption); apply stp_pur; apply s_fieldAddr'; exact rfl; exact fd_41_2; (first | exact Nat.zero_add _ | exact Nat.add_zero _ | exact rfl))); all_goals (first | (apply ol_gskip; exact rfl; exact rfl; (first | exact rfl | assumption); exact rfl) | (apply ol_gval; exact rfl; exact rfl; exact rfl; (first | exact rfl | assumption); apply stp_pur; apply s_load1; exact rfl; exact rfl; (apply RdN.own; (focus ((repeat constructor); done)); exact GetN.cons rfl GetN.nil))); all_goals (first | (apply ol_gskip; exact rfl; exact rfl; (first | exact rfl | assumption); exact rfl) | (apply ol_gval; exact rfl; exact rfl; exact rfl; (first | exact rfl | assumption); apply stp_pur; apply s_len; exact rfl; exact el_38)); all_goals (first | (apply ol_gskip; exact rfl; exact rfl; (first | exact rfl | assumption); exact rfl) | (apply ol_gval; exact rfl; exact rfl; exact rfl; (first | exact rfl | assumption); apply stp_cmp; apply s_eql; exact rfl; exact rfl; all_goals (intro hc39; try (exfalso; (first | exact hc39 rfl | omega))))); all_goals (apply ol_val; exact rfl; apply stp_pur; first | (apply s_pick_t; exact rfl; (first | exact rfl | assumption); exact rfl) | (apply s_pick_f; exact rfl; (first | exact rfl | assumption); exact rfl)); all_goals (apply ol_mv; exact rfl; exact rfl); all_goals (first | (apply ol_gskip; exact rfl; exact rfl; (first | exact rfl | assumption); exact rfl) | (apply ol_gval; exact rfl; exact rfl; exact rfl; (first | exact rfl | assumption); apply stp_pur; apply s_load1; exact rfl; exact rfl; (apply RdN.own; (focus ((repeat constructor); done)); (first | exact GetN.cons rfl GetN.nil | (apply getN_ints_app; (first | omega | (simp; omega) | (simp; done))) | (apply getN_ints; (first | omega | (simp; omega) | (simp; done))))))); all_goals (first | (apply ol_gskip; exact rfl; exact rfl; (first | exact rfl | assumption); exact rfl) | (apply ol_gval; exact rfl; exact rfl; exact rfl; (first | exact rfl | assumption); apply stp_cmp; apply s_gtr; exact rfl; exact rfl; all_goals (intro hc43; try (exfalso; (first | exact hc43 rfl | omega))))); all_goals (apply ol_val; exact rfl; apply stp_pur; first | (apply s_pick_t; exact rfl; (first | exact rfl | assumption); exact rfl) | (apply s_pick_f; exact rfl; (first | exact rfl | assumption); exact rfl)); all_goals (apply ol_mv; exact rfl; exact rfl); all_goals (first | (apply ol_gskip; exact rfl; exact rfl; (first | exact rfl | assumption); exact rfl) | (apply ol_gval; exact rfl; exact rfl; exact rfl; (first | exact rfl | assumption); apply stp_pur; apply s_fieldAddr'; exact rfl; exact fd_41_3; (first | exact Nat.zero_add _ | exact Nat.add_zero _ | exact rfl))); all_goals (first | (apply ol_gskip; exact rfl; exact rfl; (first | exact rfl | assumption); exact rfl) | (apply ol_gval; exact rfl; exact rfl; exact rfl; (first | exact rfl | assumption); apply stp_pur; apply s_load1; exact rfl; exact rfl; (apply RdN.own; (focus ((repeat constructor); done)); exact GetN.cons rfl GetN.nil))); all_goals (first | (apply ol_gskip; exact rfl; exact rfl; (first | exact rfl | assumption); exact rfl) | (apply ol_gval; exact rfl; exact rfl; exact rfl; (first | exact rfl | assumption); apply stp_pur; apply s_len; exact rfl; exact el_39)); all_goals (first | (apply ol_gskip; exact rfl; exact rfl; (first | exact rfl | assumption); exact rfl) | (apply ol_gval; exact rfl; exact rfl; exact rfl; (first | exact rfl | assumption); apply stp_cmp; apply s_leq; exact rfl; exact rfl; all_goals (intro hc49; try (exfalso; (first | exact hc49 rfl | omega))))); all_goals (apply ol_val; exact rfl; apply stp_pur; first | (apply s_pick_t; exact rfl; (first | exact rfl | assumption); exact rfl) | (apply s_pick_f; exact rfl; (first | exact rfl | assumption); exact rfl)); all_goals (apply ol_mv; exact rfl; exact rfl); all_goals (first | (apply ol_gskip; exact rfl; exact rfl; (first | exact rfl | assumption); exact rfl) | (apply ol_gval; exact rfl; exact rfl; exact rfl; (first | exact rfl | assumption); apply stp_pur; apply s_fieldAddr'; exact rfl; exact fd_41_3; (first | exact Nat.zero_add _ | exact Nat.add_zero _ | exact rfl))); all_goals (first | (apply ol_gskip; exact rfl; exact rfl; (first | exact rfl | assumption); exact rfl) | (apply ol_gval; exact rfl; exact rfl; exact rfl; (first | exact rfl | assumption); apply stp_pur; apply s_load1; exact rfl; exact rfl; (apply RdN.own; (focus ((repeat constructor); done)); exact GetN.cons rfl GetN.nil))); all_goals (first | (apply ol_gskip; exact rfl; exact rfl; (first | exact rfl | assumption); exact rfl) | (apply ol_gval; exact rfl; exact rfl; exact rfl; (first | exact rfl | assumption); apply stp_pur; apply s_makeFunc; exact rfl; exact rfl)); all_goals (apply ol_gskip; exact rfl; exact rfl; (first | exact rfl | assumption); exact rfl); all_goals (first | (apply ol_gskip; exact rfl; exact rfl; (first | exact rfl | assumption); exact rfl) | (apply ol_gval; exact rfl; exact rfl; exact rfl; (first | exact rfl | assumption); apply stp_pur; first | (apply s_not_t; exact rfl; (first | exact rfl | assumption)) | (apply s_not_f; exact rfl; (first | exact rfl | assumption)) | (apply s_not; exact rfl))); all_goals (apply ol_val; exact rfl; apply stp_pur; first | (apply s_pick_t; exact rfl; (first | exact rfl | assumption); exact rfl) | (apply s_pick_f; exact rfl; (first | exact rfl | assumption); exact rfl)); all_goals (apply ol_as; exact rfl; exact rfl); all_goals (apply ol_nil))
        | (refine cw_region_id 8 ?_; (apply ol_as; exact rfl; exact rfl); (apply ol_nil))
        | (apply cw_cond_true; exact rfl; (first | exact rfl | assumption))
        | (apply cw_cond_false; exact rfl; (first | exact rfl | assumption))
        | apply cw_skip
        | apply cw_ret
        | apply cw_block
        | apply cw_exit
      all_goals (refine ends [] (RVal.tmp rfl RVal.nil) Pick.nil ?_; rfl)
  · by_cases h2 : k = 2
    · rw [okH_2 h2]
      subst h2
      dsimp only
      by_cases hc : n = 0 ∧ m = 0
      · rw [decide_eq_true hc]
        repeat' first
          | apply cw_seq
          | (refine cw_region_id 0 ?_; (apply ol_val; exact rfl; first | (apply s_boxN; exact rfl; intro bk2) | (apply s_box1; exact rfl; exact rfl; intro bk2)); (apply ol_val; exact rfl; first | (apply s_boxN; exact rfl; intro bk3) | (apply s_box1; exact rfl; exact rfl; intro bk3)); (apply ol_as; exact rfl; exact rfl); (apply ol_nil))
          | (refine cw_region_id 1 ?_; (apply ol_fa; exact rfl; exact rfl; exact fd_41_0; (first | exact Nat.zero_add _ | exact Nat.add_zero _ | exact rfl)); (apply ol_ld; exact rfl; exact rfl; exact rfl; (apply RdN.own; (focus ((repeat constructor); done)); (first | exact GetN.cons rfl GetN.nil | (apply getN_ints_app; (first | omega | (simp; omega) | (simp; done))) | (apply getN_ints; (first | omega | (simp; omega) | (simp; done)))))); (apply ol_nil))
          | (refine cw_region_id 2 ?_; (apply ol_val; exact rfl; apply stp_cmp; apply s_eql; exact rfl; exact rfl; all_goals (intro hc8; try (exfalso; (first | exact hc8 rfl | omega)))); all_goals (apply ol_as; exact rfl; exact rfl); all_goals (apply ol_nil))
          | (refine cw_region_id 3 ?_; (apply ol_fa; exact rfl; exact rfl; exact fd_41_2; (first | exact Nat.zero_add _ | exact Nat.add_zero _ | exact rfl)); (apply ol_ld; exact rfl; exact rfl; exact rfl; (apply RdN.own; (focus ((repeat constructor); done)); exact GetN.cons rfl GetN.nil)); (apply ol_val; exact rfl; apply stp_pur; apply s_len; exact rfl; exact el_38); (apply ol_val; exact rfl; apply stp_cmp; apply s_eql; exact rfl; exact rfl; all_goals (intro hc12; try (exfalso; (first | exact hc12 rfl | omega)))); all_goals (apply ol_mv; exact rfl; exact rfl); all_goals (first | (apply ol_gskip; exact rfl; exact rfl; (first | exact rfl | assumption); exact rfl) | (apply ol_gval; exact rfl; exact rfl; exact rfl; (first | exact rfl | assumption); apply stp_pur; apply s_fieldAddr'; exact rfl; exact fd_41_3; (first | exact Nat.zero_add _ | exact Nat.add_zero _ | exact rfl))); all_goals (first | (apply ol_gskip; exact rfl; exact rfl; (first | exact rfl | assumption); exact rfl) | (apply ol_gval; exact rfl; exact rfl; exact rfl; (first | exact rfl | assumption); apply stp_pur; apply s_load1; exact rfl; exact rfl; (apply RdN.own; (focus ((repeat constructor); done)); exact GetN.cons rfl GetN.nil))); all_goals (first | (apply ol_gskip; exact rfl; exact rfl; (first | exact rfl | assumption); exact rfl) | (apply ol_gval; exact rfl; exact rfl; exact rfl; (first | exact rfl | assumption); apply stp_pur; apply s_len; exact rfl; exact el_39)); all_goals (first | (apply ol_gskip; exact rfl; exact rfl; (first | exact rfl | assumption); exact rfl) | (apply ol_gval; exact rfl; exact rfl; exact rfl; (first | exact rfl | assumption); apply stp_cmp; apply s_eql; exact rfl; exact rfl; all_goals (intro hc17; try (exfalso; (first | exact hc17 rfl | omega))))); all_goals (apply ol_val; exact rfl; apply stp_pur; first | (apply s_pick_t; exact rfl; (first | exact rfl | assumption); exact rfl) | (apply s_pick_f; exact rfl; (first | exact rfl | assumption); exact rfl)); all_goals (apply ol_as; exact rfl; exact rfl); all_goals (apply ol_nil))
          | (refine cw_region_id 4 ?_; (apply ol_val; exact rfl; apply stp_cmp; apply s_eql; exact rfl; exact rfl; all_goals (intro hc20; try (exfalso; (first | exact hc20 rfl | omega)))); all_goals (apply ol_as; exact rfl; exact rfl); all_goals (apply ol_nil))
          | (refine cw_region_id 5 ?_; (apply ol_fa; exact rfl; exact rfl; exact fd_41_1; (first | exact Nat.zero_add _ | exact Nat.add_zero _ | exact rfl)); (apply ol_ld; exact rfl; exact rfl; exact rfl; (apply RdN.own; (focus ((repeat constructor); done)); (first | exact GetN.cons rfl GetN.nil | (apply getN_ints_app; (first | omega | (simp; omega) | (simp; done))) | (apply getN_ints; (first | omega | (simp; omega) | (simp; done)))))); (apply ol_val; exact rfl; apply stp_cmp; apply s_eql; exact rfl; exact rfl; all_goals (intro hc23; try (exfalso; (first | exact hc23 rfl | omega)))); all_goals (apply ol_mv; exact rfl; exact rfl); all_goals (first | (apply ol_gskip; exact rfl; exact rfl; (first | exact rfl | assumption); exact rfl) | (apply ol_gval; exact rfl; exact rfl; exact rfl; (first | exact rfl | assumption); apply stp_pur; apply s_fieldAddr'; exact rfl; exact fd_41_3; (first | exact Nat.zero_add _ | exact Nat.add_zero _ | exact rfl))); all_goals (first | (apply ol_gskip; exact rfl; exact rfl; (first | exact rfl | assumption); exact rfl) | (apply ol_gval; exact rfl; exact rfl; exact rfl; (first | exact rfl | assumption); apply stp_pur; apply s_load1; exact rfl; exact rfl; (apply RdN.own; (focus ((repeat constructor); done)); exact GetN.cons rfl GetN.nil))); all_goals (first | (apply ol_gskip; exact rfl; exact rfl; (first | exact rfl | assumption); exact rfl) | (apply ol_gval; exact rfl; exact rfl; exact rfl; (first | exact rfl | assumption); apply stp_pur; apply s_len; exact rfl; exact el_39)); all_goals (first | (apply ol_gskip; exact rfl; exact rfl; (first | exact rfl | assumption); exact rfl) | (apply ol_gval; exact rfl; exact rfl; exact rfl; (first | exact rfl | assumption); apply stp_cmp; apply s_eql; exact rfl; exact rfl; all_goals (intro hc28; try (exfalso; (first | exact hc28 rfl | omega))))); all_goals (apply ol_val; exact rfl; apply stp_pur; first | (apply s_pick_t; exact rfl; (first | exact rfl | assumption); exact rfl) | (apply s_pick_f; exact rfl; (first | exact rfl | assumption); exact rfl)); all_goals (apply ol_as; exact rfl; exact rfl); all_goals (apply ol_nil))
          | (refine cw_region_id 6 ?_; (apply ol_val; exact rfl; apply stp_cmp; apply s_eql; exact rfl; exact rfl; all_goals (intro hc31; try (exfalso; (first | exact hc31 rfl | omega)))); all_goals (apply ol_as; exact rfl; exact rfl); all_goals (apply ol_nil))
          | (refine cw_region_id 7 ?_; (apply ol_fa; exact rfl; exact rfl; exact fd_41_1; (first | exact Nat.zero_add _ | exact Nat.add_zero _ | exact rfl)); (apply ol_ld; exact rfl; exact rfl; exact rfl; (apply RdN.own; (focus ((repeat constructor); done)); (first | exact GetN.cons rfl GetN.nil | (apply getN_ints_app; (first | omega | (simp; omega) | (simp; done))) | (apply getN_ints; (first | omega | (simp; omega) | (simp; done)))))); (apply ol_val; exact rfl; apply stp_cmp; apply s_eql; exact rfl; exact rfl; all_goals (intro hc34; try (exfalso; (first | exact hc34 rfl | omega)))); all_goals (apply ol_mv; exact rfl; exact rfl); all_goals (first | (apply ol_gskip; exact rfl; exact rfl; (first | exact rfl | assumption); exact rfl) | (apply ol_gval; exact rfl; exact rfl; exact rfl; (first | exact rfl | assumption); apply stp_pur; apply s_fieldAddr'; exact rfl; exact fd_41_2; (first | exact Nat.zero_add _ | exact Nat.add_zero _ | exact rfl))); all_goals (first | (apply ol_gskip; exact rfl; exact rfl; (first | exact rfl | assumption); exact rfl) | (apply ol_gval; exact rfl; exact rfl; exact rfl; (first | exact rfl | assumption); apply stp_pur; apply s_load1; exact rfl; exact rfl; (apply RdN.own; (focus ((repeat constructor); done)); exact GetN.cons rfl GetN.nil))); all_goals (first | (apply ol_gskip; exact rfl; exact rfl; (first | exact rfl | assumption); exact rfl) | (apply ol_gval; exact rfl; exact rfl; exact rfl; (first | exact rfl | assumption); apply stp_pur; apply s_len; exact rfl; exact el_38)); all_goals (first | (apply ol_gskip; exact rfl; exact rfl; (first | exact rfl | assumption); exact rfl) | (apply ol_gval; exact rfl; exact rfl; exact rfl; (first | exact rfl | assumption); apply stp_cmp; apply s_eql; exact rfl; exact rfl; all_goals (intro hc39; try (exfalso; (first | exact hc39 rfl | omega))))); all_goals (apply ol_val; exact rfl; apply stp_pur; first | (apply s_pick_t; exact rfl; (first | exact rfl | assumption); exact rfl) | (apply s_pick_f; exact rfl; (first | exact rfl | assumption); exact rfl)); all_goals (apply ol_mv; exact rfl; exact rfl); all_goals (first | (apply ol_gskip; exact rfl; exact rfl; (first | exact rfl | assumption); exact rfl) | (apply ol_gval; exact rfl; exact rfl; exact rfl; (first | exact rfl | assumption); apply stp_pur; apply s_load1; exact rfl; exact rfl; (apply RdN.own; (focus ((repeat constructor); done)); (first | exact GetN.cons rfl GetN.nil | (apply getN_ints_app; (first | omega | (simp; omega) | (simp; done))) | (apply getN_ints; (first | omega | (simp; omega) | (simp; done))))))); all_goals (first | (apply ol_gskip; exact rfl; exact rfl; (first | exact rfl | assumption); exact rfl) | (apply ol_gval; exact rfl; exact rfl; exact rfl; (first | exact rfl | assumption); apply stp_cmp; apply s_gtr; exact rfl; exact rfl; all_goals (intro hc43; try (exfalso; (first | exact hc43 rfl | omega))))); all_goals (apply ol_val; exact rfl; apply stp_pur; first | (apply s_pick_t; exact rfl; (first | exact rfl | assumption); exact rfl) | (apply s_pick_f; exact rfl; (first | exact rfl | assumption); exact rfl)); all_goals (apply ol_mv; exact rfl; exact rfl); all_goals (first | (apply ol_gskip; exact rfl; exact rfl; (first | exact rfl | assumption); exact rfl) | (apply ol_gval; exact rfl; exact rfl; exact rfl; (first | exact rfl | assumption); apply stp_pur; apply s_fieldAddr'; exact rfl; exact fd_41_3; (first | exact Nat.zero_add _ | exact Nat.add_zero _ | exact rfl))); all_goals (first | (apply ol_gskip; exact rfl; exact rfl; (first | exact rfl | assumption); exact rfl) | (apply ol_gval; exact rfl; exact rfl; exact rfl; (first | exact rfl | assumption); apply stp_pur; apply s_load1; exact rfl; exact rfl; (apply RdN.own; (focus ((repeat constructor); done)); exact GetN.cons rfl GetN.nil))); all_goals (first | (apply ol_gskip; exact rfl; exact rfl; (first | exact rfl | assumption); exact rfl) | (apply ol_gval; exact rfl; exact rfl; exact rfl; (first | exact rfl | assumption); apply stp_pur; apply s_len; exact rfl; exact el_39)); all_goals (first | (apply ol_gskip; exact rfl; exact rfl; (first | exact rfl | assumption); exact rfl) | (apply ol_gval; exact rfl; exact rfl; exact rfl; (first | exact rfl | assumption); apply stp_cmp; apply s_leq; exact rfl; exact rfl; all_goals (intro hc49; try (exfalso; (first | exact hc49 rfl | omega))))); all_goals (apply ol_val; exact rfl; apply stp_pur; first | (apply s_pick_t; exact rfl; (first | exact rfl | assumption); exact rfl) | (apply s_pick_f; exact rfl; (first | exact rfl | assumption); exact rfl)); all_goals (apply ol_mv; exact rfl; exact rfl); all_goals (first | (apply ol_gskip; exact rfl; exact rfl; (first | exact rfl | assumption); exact rfl) | (apply ol_gval; exact rfl; exact rfl; exact rfl; (first | exact rfl | assumption); apply stp_pur; apply s_fieldAddr'; exact rfl; exact fd_41_3; (first | exact Nat.zero_add _ | exact Nat.add_zero _ | exact rfl))); all_goals (first | (apply ol_gskip; exact rfl; exact rfl; (first | exact rfl | assumption); exact rfl) | (apply ol_gval; exact rfl; exact rfl; exact rfl; (first | exact rfl | assumption); apply stp_pur; apply s_load1; exact rfl; exact rfl; (apply RdN.own; (focus ((repeat constructor); done)); exact GetN.cons rfl GetN.nil))); all_goals (first | (apply ol_gskip; exact rfl; exact rfl; (first | exact rfl | assumption); exact rfl) | (apply ol_gval; exact rfl; exact rfl; exact rfl; (first | exact rfl | assumption); apply stp_pur; apply s_makeFunc; exact rfl; exact rfl)); all_goals (apply ol_gskip; exact rfl; exact rfl; (first | exact rfl | assumption); exact rfl); all_goals (first | (apply ol_gskip; exact rfl; exact rfl; (first | exact rfl | assumption); exact rfl) | (apply ol_gval; exact rfl; exact rfl; exact rfl; (first | exact rfl | assumption); apply stp_pur; first | (apply s_not_t; exact rfl; (first | exact rfl | assumption)) | (apply s_not_f; exact rfl; (first | exact rfl | assumption)) | (apply s_not; exact rfl))); all_goals (apply ol_val; exact rfl; apply stp_pur; first | (apply s_pick_t; exact rfl; (first | exact rfl | assumption); exact rfl) | (apply s_pick_f; exact rfl; (first | exact rfl | assumption); exact rfl)); all_goals (apply ol_as; exact rfl; exact rfl); all_goals (apply ol_nil))
          | (refine cw_region_id 8 ?_; (apply ol_as; exact rfl; exact rfl); (apply ol_nil))
          | (apply cw_cond_true; exact rfl; (first | exact rfl | assumption))
          | (apply cw_cond_false; exact rfl; (first | exact rfl | assumption))
          | apply cw_skip
          | apply cw_ret
          | apply cw_block
          | apply cw_exit
        all_goals (refine ends [] (RVal.tmp rfl RVal.nil) Pick.nil ?_; rfl)
      · rw [decide_eq_false hc]
        repeat' first
          | apply cw_seq
          | (refine cw_region_id 0 ?_; (apply ol_val; exact rfl; first | (apply s_boxN; exact rfl; intro bk2) | (apply s_box1; exact rfl; exact rfl; intro bk2)); (apply ol_val; exact rfl; first | (apply s_boxN; exact rfl; intro bk3) | (apply s_box1; exact rfl; exact rfl; intro bk3)); (apply ol_as; exact rfl; exact rfl); (apply ol_nil))
          | (refine cw_region_id 1 ?_; (apply ol_fa; exact rfl; exact rfl; exact fd_41_0; (first | exact Nat.zero_add _ | exact Nat.add_zero _ | exact rfl)); (apply ol_ld; exact rfl; exact rfl; exact rfl; (apply RdN.own; (focus ((repeat constructor); done)); (first | exact GetN.cons rfl GetN.nil | (apply getN_ints_app; (first | omega | (simp; omega) | (simp; done))) | (apply getN_ints; (first | omega | (simp; omega) | (simp; done)))))); (apply ol_nil))
          | (refine cw_region_id 2 ?_; (apply ol_val; exact rfl; apply stp_cmp; apply s_eql; exact rfl; exact rfl; all_goals (intro hc8; try (exfalso; (first | exact hc8 rfl | omega)))); all_goals (apply ol_as; exact rfl; exact rfl); all_goals (apply ol_nil))
          | (refine cw_region_id 3 ?_; (apply ol_fa; exact rfl; exact rfl; exact fd_41_2; (first | exact Nat.zero_add _ | exact Nat.add_zero _ | exact rfl)); (apply ol_ld; exact rfl; exact rfl; exact rfl; (apply RdN.own; (focus ((repeat constructor); done)); exact GetN.cons rfl GetN.nil)); (apply ol_val; exact rfl; apply stp_pur; apply s_len; exact rfl; exact el_38); (apply ol_val; exact rfl; apply stp_cmp; apply s_eql; exact rfl; exact rfl; all_goals (intro hc12; try (exfalso; (first | exact hc12 rfl | omega)))); all_goals (apply ol_mv; exact rfl; exact rfl); all_goals (first | (apply ol_gskip; exact rfl; exact rfl; (first | exact rfl | assumption); exact rfl) | (apply ol_gval; exact rfl; exact rfl; exact rfl; (first | exact rfl | assumption); apply stp_pur; apply s_fieldAddr'; exact rfl; exact fd_41_3; (first | exact Nat.zero_add _ | exact Nat.add_zero _ | exact rfl))); all_goals (first | (apply ol_gskip; exact rfl; exact rfl; (first | exact rfl | assumption); exact rfl) | (apply ol_gval; exact rfl; exact rfl; exact rfl; (first | exact rfl | assumption); apply stp_pur; apply s_load1; exact rfl; exact rfl; (apply RdN.own; (focus ((repeat constructor); done)); exact GetN.cons rfl GetN.nil))); all_goals (first | (apply ol_gskip; exact rfl; exact rfl; (first | exact rfl | assumption); exact rfl) | (apply ol_gval; exact rfl; exact rfl; exact rfl; (first | exact rfl | assumption); apply stp_pur; apply s_len; exact rfl; exact el_39)); all_goals (first | (apply ol_gskip; exact rfl; exact rfl; (first | exact rfl | assumption); exact rfl) | (apply ol_gval; exact rfl; exact rfl; exact rfl; (first | exact rfl | assumption); apply stp_cmp; apply s_eql; exact rfl; exact rfl; all_goals (intro hc17; try (exfalso; (first | exact hc17 rfl | omega))))); all_goals (apply ol_val; exact rfl; apply stp_pur; first | (apply s_pick_t; exact rfl; (first | exact rfl | assumption); exact rfl) | (apply s_pick_f; exact rfl; (first | exact rfl | assumption); exact rfl)); all_goals (apply ol_as; exact rfl; exact rfl); all_goals (apply ol_nil))
          | (refine cw_region_id 4 ?_; (apply ol_val; exact rfl; apply stp_cmp; apply s_eql; exact rfl; exact rfl; all_goals (intro hc20; try (exfalso; (first | exact hc20 rfl | omega)))); all_goals (apply ol_as; exact rfl; exact rfl); all_goals (apply ol_nil))
          | (refine cw_region_id 5 ?_; (apply ol_fa; exact rfl; exact rfl; exact fd_41_1; (first | exact Nat.zero_add _ | exact Nat.add_zero _ | exact rfl)); (apply ol_ld; exact rfl; exact rfl; exact rfl; (apply RdN.own; (focus ((repeat constructor); done)); (first | exact GetN.cons rfl GetN.nil | (apply getN_ints_app; (first | omega | (simp; omega) | (simp; done))) | (apply getN_ints; (first | omega | (simp; omega) | (simp; done)))))); (apply ol_val; exact rfl; apply stp_cmp; apply s_eql; exact rfl; exact rfl; all_goals (intro hc23; try (exfalso; (first | exact hc23 rfl | omega)))); all_goals (apply ol_mv; exact rfl; exact rfl); all_goals (first | (apply ol_gskip; exact rfl; exact rfl; (first | exact rfl | assumption); exact rfl) | (apply ol_gval; exact rfl; exact rfl; exact rfl; (first | exact rfl | assumption); apply stp_pur; apply s_fieldAddr'; exact rfl; exact fd_41_3; (first | exact Nat.zero_add _ | exact Nat.add_zero _ | exact rfl))); all_goals (first | (apply ol_gskip; exact rfl; exact rfl; (first | exact rfl | assumption); exact rfl) | (apply ol_gval; exact rfl; exact rfl; exact rfl; (first | exact rfl | assumption); apply stp_pur; apply s_load1; exact rfl; exact rfl; (apply RdN.own; (focus ((repeat constructor); done)); exact GetN.cons rfl GetN.nil))); all_goals (first | (apply ol_gskip; exact rfl; exact rfl; (first | exact rfl | assumption); exact rfl) | (apply ol_gval; exact rfl; exact rfl; exact rfl; (first | exact rfl | assumption); apply stp_pur; apply s_len; exact rfl; exact el_39)); all_goals (first | (apply ol_gskip; exact rfl; exact rfl; (first | exact rfl | assumption); exact rfl) | (apply ol_gval; exact rfl; exact rfl; exact rfl; (first | exact rfl | assumption); apply stp_cmp; apply s_eql; exact rfl; exact rfl; all_goals (intro hc28; try (exfalso; (first | exact hc28 rfl | omega))))); all_goals (apply ol_val; exact rfl; apply stp_pur; first | (apply s_pick_t; exact rfl; (first | exact rfl | assumption); exact rfl) | (apply s_pick_f; exact rfl; (first | exact rfl | assumption); exact rfl)); all_goals (apply ol_as; exact rfl; exact rfl); all_goals (apply ol_nil))
          | (refine cw_region_id 6 ?_; (apply ol_val; exact rfl; apply stp_cmp; apply s_eql; exact rfl; exact rfl; all_goals (intro hc31; try (exfalso; (first | exact hc31 rfl | omega)))); all_goals (apply ol_as; exact rfl; exact rfl); all_goals (apply ol_nil))
          | (refine cw_region_id 7 ?_; (apply ol_fa; exact rfl; exact rfl; exact fd_41_1; (first | exact Nat.zero_add _ | exact Nat.add_zero _ | exact rfl)); (apply ol_ld; exact rfl; exact rfl; exact rfl; (apply RdN.own; (focus ((repeat constructor); done)); (first | exact GetN.cons rfl GetN.nil | (apply getN_ints_app; (first | omega | (simp; omega) | (simp; done))) | (apply getN_ints; (first | omega | (simp; omega) | (simp; done)))))); (apply ol_val; exact rfl; apply stp_cmp; apply s_eql; exact rfl; exact rfl; all_goals (intro hc34; try (exfalso; (first | exact hc34 rfl | omega)))); all_goals (apply ol_mv; exact rfl; exact rfl); all_goals (first | (apply ol_gskip; exact rfl; exact rfl; (first | exact rfl | assumption); exact rfl) | (apply ol_gval; exact rfl; exact rfl; exact rfl; (first | exact rfl | assumption); apply stp_pur; apply s_fieldAddr'; exact rfl; exact fd_41_2; (first | exact Nat.zero_add _ | exact Nat.add_zero _ | exact rfl))); all_goals (first | (apply ol_gskip; exact rfl; exact rfl; (first | exact rfl | assumption); exact rfl) | (apply ol_gval; exact rfl; exact rfl; exact rfl; (first | exact rfl | assumption); apply stp_pur; apply s_load1; exact rfl; exact rfl; (apply RdN.own; (focus ((repeat constructor); done)); exact GetN.cons rfl GetN.nil))); all_goals (first | (apply ol_gskip; exact rfl; exact rfl; (first | exact rfl | assumption); exact rfl) | (apply ol_gval; exact rfl; exact rfl; exact rfl; (first | exact rfl | assumption); apply stp_pur; apply s_len; exact rfl; exact el_38)); all_goals (first | (apply ol_gskip; exact rfl; exact rfl; (first | exact rfl | assumption); exact rfl) | (apply ol_gval; exact rfl; exact rfl; exact rfl; (first | exact rfl | assumption); apply stp_cmp; apply s_eql; exact rfl; exact rfl; all_goals (intro hc39; try (exfalso; (first | exact hc39 rfl | omega))))); all_goals (apply ol_val; exact rfl; apply stp_pur; first | (apply s_pick_t; exact rfl; (first | exact rfl | assumption); exact rfl) | (apply s_pick_f; exact rfl; (first | exact rfl | assumption); exact rfl)); all_goals (apply ol_mv; exact rfl; exact rfl); all_goals (first | (apply ol_gskip; exact rfl; exact rfl; (first | exact rfl | assumption); exact rfl) | (apply ol_gval; exact rfl; exact rfl; exact rfl; (first | exact rfl | assumption); apply stp_pur; apply s_load1; exact rfl; exact rfl; (apply RdN.own; (focus ((repeat constructor); done)); (first | exact GetN.cons rfl GetN.nil | (apply getN_ints_app; (first | omega | (simp; omega) | (simp; done))) | (apply getN_ints; (first | omega | (simp; omega) | (simp; done))))))); all_goals (first | (apply ol_gskip; exact rfl; exact rfl; (first | exact rfl | assumption); exact rfl) | (apply ol_gval; exact rfl; exact rfl; exact rfl; (first | exact rfl | assumption); apply stp_cmp; apply s_gtr; exact rfl; exact rfl; all_goals (intro hc43; try (exfalso; (first | exact hc43 rfl | omega))))); all_goals (apply ol_val; exact rfl; apply stp_pur; first | (apply s_pick_t; exact rfl; (first | exact rfl | assumption); exact rfl) | (apply s_pick_f; exact rfl; (first | exact rfl | assumption); exact rfl)); all_goals (apply ol_mv; exact rfl; exact rfl); all_goals (first | (apply ol_gskip; exact rfl; exact rfl; (first | exact rfl | assumption); exact rfl) | (apply ol_gval; exact rfl; exact rfl; exact rfl; (first | exact rfl | assumption); apply stp_pur; apply s_fieldAddr'; exact rfl; exact fd_41_3; (first | exact Nat.zero_add _ | exact Nat.add_zero _ | exact rfl))); all_goals (first | (apply ol_gskip; exact rfl; exact rfl; (first | exact rfl | assumption); exact rfl) | (apply ol_gval; exact rfl; exact rfl; exact rfl; (first | exact rfl | assumption); apply stp_pur; apply s_load1; exact rfl; exact rfl; (apply RdN.own; (focus ((repeat constructor); done)); exact GetN.cons rfl GetN.nil))); all_goals (first | (apply ol_gskip; exact rfl; exact rfl; (first | exact rfl | assumption); exact rfl) | (apply ol_gval; exact rfl; exact rfl; exact rfl; (first | exact rfl | assumption); apply stp_pur; apply s_len; exact rfl; exact el_39)); all_goals (first | (apply ol_gskip; exact rfl; exact rfl; (first | exact rfl | assumption); exact rfl) | (apply ol_gval; exact rfl; exact rfl; exact rfl; (first | exact rfl | assumption); apply stp_cmp; apply s_leq; exact rfl; exact rfl; all_goals (intro hc49; try (exfalso; (first | exact hc49 rfl | omega))))); all_goals (apply ol_val; exact rfl; apply stp_pur; first | (apply s_pick_t; exact rfl; (first | exact rfl | assumption); exact rfl) | (apply s_pick_f; exact rfl; (first | exact rfl | assumption); exact rfl)); all_goals (apply ol_mv; exact rfl; exact rfl); all_goals (first | (apply ol_gskip; exact rfl; exact rfl; (first | exact rfl | assumption); exact rfl) | (apply ol_gval; exact rfl; exact rfl; exact rfl; (first | exact rfl | assumption); apply stp_pur; apply s_fieldAddr'; exact rfl; exact fd_41_3; (first | exact Nat.zero_add _ | exact Nat.add_zero _ | exact rfl))); all_goals (first | (apply ol_gskip; exact rfl; exact rfl; (first | exact rfl | assumption); exact rfl) | (apply ol_gval; exact rfl; exact rfl; exact rfl; (first | exact rfl | assumption); apply stp_pur; apply s_load1; exact rfl; exact rfl; (apply RdN.own; (focus ((repeat constructor); done)); exact GetN.cons rfl GetN.nil))); all_goals (first | (apply ol_gskip; exact rfl; exact rfl; (first | exact rfl | assumption); exact rfl) | (apply ol_gval; exact rfl; exact rfl; exact rfl; (first | exact rfl | assumption); apply stp_pur; apply s_makeFunc; exact rfl; exact rfl)); all_goals (apply ol_gskip; exact rfl; exact rfl; (first | exact rfl | assumption); exact rfl); all_goals (first | (apply ol_gskip; exact rfl; exact rfl; (first | exact rfl | assumption); exact rfl) | (apply ol_gval; exact rfl; exact rfl; exact rfl; (first | exact rfl | assumption); apply stp_pur; first | (apply s_not_t; exact rfl; (first | exact rfl | assumption)) | (apply s_not_f; exact rfl; (first | exact rfl | assumption)) | (apply s_not; exact rfl))); all_goals (apply ol_val; exact rfl; apply stp_pur; first | (apply s_pick_t; exact rfl; (first | exact rfl | assumption); exact rfl) | (apply s_pick_f; exact rfl; (first | exact rfl | assumption); exact rfl)); all_goals (apply ol_as; exact rfl; exact rfl); all_goals (apply ol_nil))
          | (refine cw_region_id 8 ?_; (apply ol_as; exact rfl; exact rfl); (apply ol_nil))
          | (apply cw_cond_true; exact rfl; (first | exact rfl | assumption))
          | (apply cw_cond_false; exact rfl; (first | exact rfl | assumption))
          | apply cw_skip
          | apply cw_ret
          | apply cw_block
          | apply cw_exit
        all_goals (refine ends [] (RVal.tmp rfl RVal.nil) Pick.nil ?_; rfl)
    · rw [okH_0 h1 h2]
      repeat' first
        | apply cw_seq
        | (refine cw_region_id 0 ?_; (apply ol_val; exact rfl; first | (apply s_boxN; exact rfl; intro bk2) | (apply s_box1; exact rfl; exact rfl; intro bk2)); (apply ol_val; exact rfl; first | (apply s_boxN; exact rfl; intro bk3) | (apply s_box1; exact rfl; exact rfl; intro bk3)); (apply ol_as; exact rfl; exact rfl); (apply ol_nil))
        | (refine cw_region_id 1 ?_; (apply ol_fa; exact rfl; exact rfl; exact fd_41_0; (first | exact Nat.zero_add _ | exact Nat.add_zero _ | exact rfl)); (apply ol_ld; exact rfl; exact rfl; exact rfl; (apply RdN.own; (focus ((repeat constructor); done)); (first | exact GetN.cons rfl GetN.nil | (apply getN_ints_app; (first | omega | (simp; omega) | (simp; done))) | (apply getN_ints; (first | omega | (simp; omega) | (simp; done)))))); (apply ol_nil))
        | (refine cw_region_id 2 ?_; (apply ol_val; exact rfl; apply stp_cmp; apply s_eql; exact rfl; exact rfl; all_goals (intro hc8; try (exfalso; (first | exact hc8 rfl | omega)))); all_goals (apply ol_as; exact rfl; exact rfl); all_goals (apply ol_nil))
        | (refine cw_region_id 3 ?_; (apply ol_fa; exact rfl; exact rfl; exact fd_41_2; (first | exact Nat.zero_add _ | exact Nat.add_zero _ | exact rfl)); (apply ol_ld; exact rfl; exact rfl; exact rfl; (apply RdN.own; (focus ((repeat constructor); done)); exact GetN.cons rfl GetN.nil)); (apply ol_val; exact rfl; apply stp_pur; apply s_len; exact rfl; exact el_38); (apply ol_val; exact rfl; apply stp_cmp; apply s_eql; exact rfl; exact rfl; all_goals (intro hc12; try (exfalso; (first | exact hc12 rfl | omega)))); all_goals (apply ol_mv; exact rfl; exact rfl); all_goals (first | (apply ol_gskip; exact rfl; exact rfl; (first | exact rfl | assumption); exact rfl) | (apply ol_gval; exact rfl; exact rfl; exact rfl; (first | exact rfl | assumption); apply stp_pur; apply s_fieldAddr'; exact rfl; exact fd_41_3; (first | exact Nat.zero_add _ | exact Nat.add_zero _ | exact rfl))); all_goals (first | (apply ol_gskip; exact rfl; exact rfl; (first | exact rfl | assumption); exact rfl) | (apply ol_gval; exact rfl; exact rfl; exact rfl; (first | exact rfl | assumption); apply stp_pur; apply s_load1; exact rfl; exact rfl; (apply RdN.own; (focus ((repeat constructor); done)); exact GetN.cons rfl GetN.nil))); all_goals (first | (apply ol_gskip; exact rfl; exact rfl; (first | exact rfl | assumption); exact rfl) | (apply ol_gval; exact rfl; exact rfl; exact rfl; (first | exact rfl | assumption); apply stp_pur; apply s_len; exact rfl; exact el_39)); all_goals (first | (apply ol_gskip; exact rfl; exact rfl; (first | exact rfl | assumption); exact rfl) | (apply ol_gval; exact rfl; exact rfl; exact rfl; (first | exact rfl | assumption); apply stp_cmp; apply s_eql; exact rfl; exact rfl; all_goals (intro hc17; try (exfalso; (first | exact hc17 rfl | omega))))); all_goals (apply ol_val; exact rfl; apply stp_pur; first | (apply s_pick_t; exact rfl; (first | exact rfl | assumption); exact rfl) | (apply s_pick_f; exact rfl; (first | exact rfl | assumption); exact rfl)); all_goals (apply ol_as; exact rfl; exact rfl); all_goals (apply ol_nil))
        | (refine cw_region_id 4 ?_; (apply ol_val; exact rfl; apply stp_cmp; apply s_eql; exact rfl; exact rfl; all_goals (intro hc20; try (exfalso; (first | exact hc20 rfl | omega)))); all_goals (apply ol_as; exact rfl; exact rfl); all_goals (apply ol_nil))
        | (refine cw_region_id 5 ?_; (apply ol_fa; exact rfl; exact rfl; exact fd_41_1; (first | exact Nat.zero_add _ | exact Nat.add_zero _ | exact rfl)); (apply ol_ld; exact rfl; exact rfl; exact rfl; (apply RdN.own; (focus ((repeat constructor); done)); (first | exact GetN.cons rfl GetN.nil | (apply getN_ints_app; (first | omega | (simp; omega) | (simp; done))) | (apply getN_ints; (first | omega | (simp; omega) | (simp; done)))))); (apply ol_val; exact rfl; apply stp_cmp; apply s_eql; exact rfl; exact rfl; all_goals (intro hc23; try (exfalso; (first | exact hc23 rfl | omega)))); all_goals (apply ol_mv; exact rfl; exact rfl); all_goals (first | (apply ol_gskip; exact rfl; exact rfl; (first | exact rfl | assumption); exact rfl) | (apply ol_gval; exact rfl; exact rfl; exact rfl; (first | exact rfl | assumption); apply stp_pur; apply s_fieldAddr'; exact rfl; exact fd_41_3; (first | exact Nat.zero_add _ | exact Nat.add_zero _ | exact rfl))); all_goals (first | (apply ol_gskip; exact rfl; exact rfl; (first | exact rfl | assumption); exact rfl) | (apply ol_gval; exact rfl; exact rfl; exact rfl; (first | exact rfl | assumption); apply stp_pur; apply s_load1; exact rfl; exact rfl; (apply RdN.own; (focus ((repeat constructor); done)); exact GetN.cons rfl GetN.nil))); all_goals (first | (apply ol_gskip; exact rfl; exact rfl; (first | exact rfl | assumption); exact rfl) | (apply ol_gval; exact rfl; exact rfl; exact rfl; (first | exact rfl | assumption); apply stp_pur; apply s_len; exact rfl; exact el_39)); all_goals (first | (apply ol_gskip; exact rfl; exact rfl; (first | exact rfl | assumption); exact rfl) | (apply ol_gval; exact rfl; exact rfl; exact rfl; (first | exact rfl | assumption); apply stp_cmp; apply s_eql; exact rfl; exact rfl; all_goals (intro hc28; try (exfalso; (first | exact hc28 rfl | omega))))); all_goals (apply ol_val; exact rfl; apply stp_pur; first | (apply s_pick_t; exact rfl; (first | exact rfl | assumption); exact rfl) | (apply s_pick_f; exact rfl; (first | exact rfl | assumption); exact rfl)); all_goals (apply ol_as; exact rfl; exact rfl); all_goals (apply ol_nil))
        | (refine cw_region_id 6 ?_; (apply ol_val; exact rfl; apply stp_cmp; apply s_eql; exact rfl; exact rfl; all_goals (intro hc31; try (exfalso; (first | exact hc31 rfl | omega)))); all_goals (apply ol_as; exact rfl; exact rfl); all_goals (apply ol_nil))
        | (refine cw_region_id 7 ?_; (apply ol_fa; exact rfl; exact rfl; exact fd_41_1; (first | exact Nat.zero_add _ | exact Nat.add_zero _ | exact rfl)); (apply ol_ld; exact rfl; exact rfl; exact rfl; (apply RdN.own; (focus ((repeat constructor); done)); (first | exact GetN.cons rfl GetN.nil | (apply getN_ints_app; (first | omega | (simp; omega) | (simp; done))) | (apply getN_ints; (first | omega | (simp; omega) | (simp; done)))))); (apply ol_val; exact rfl; apply stp_cmp; apply s_eql; exact rfl; exact rfl; all_goals (intro hc34; try (exfalso; (first | exact hc34 rfl | omega)))); all_goals (apply ol_mv; exact rfl; exact rfl); all_goals (first | (apply ol_gskip; exact rfl; exact rfl; (first | exact rfl | assumption); exact rfl) | (apply ol_gval; exact rfl; exact rfl; exact rfl; (first | exact rfl | assumption); apply stp_pur; apply s_fieldAddr'; exact rfl; exact fd_41_2; (first | exact Nat.zero_add _ | exact Nat.add_zero _ | exact rfl))); all_goals (first | (apply ol_gskip; exact rfl; exact rfl; (first | exact rfl | assumption); exact rfl) | (apply ol_gval; exact rfl; exact rfl; exact rfl; (first | exact rfl | assumption); apply stp_pur; apply s_load1; exact rfl; exact rfl; (apply RdN.own; (focus ((repeat constructor); done)); exact GetN.cons rfl GetN.nil))); all_goals (first | (apply ol_gskip; exact rfl; exact rfl; (first | exact rfl | assumption); exact rfl) | (apply ol_gval; exact rfl; exact rfl; exact rfl; (first | exact rfl | assumption); apply stp_pur; apply s_len; exact rfl; exact el_38)); all_goals (first | (apply ol_gskip; exact rfl; exact rfl; (first | exact rfl | assumption); exact rfl) | (apply ol_gval; exact rfl; exact rfl; exact rfl; (first | exact rfl | assumption); apply stp_cmp; apply s_eql; exact rfl; exact rfl; all_goals (intro hc39; try (exfalso; (first | exact hc39 rfl | omega))))); all_goals (apply ol_val; exact rfl; apply stp_pur; first | (apply s_pick_t; exact rfl; (first | exact rfl | assumption); exact rfl) | (apply s_pick_f; exact rfl; (first | exact rfl | assumption); exact rfl)); all_goals (apply ol_mv; exact rfl; exact rfl); all_goals (first | (apply ol_gskip; exact rfl; exact rfl; (first | exact rfl | assumption); exact rfl) | (apply ol_gval; exact rfl; exact rfl; exact rfl; (first | exact rfl | assumption); apply stp_pur; apply s_load1; exact rfl; exact rfl; (apply RdN.own; (focus ((repeat constructor); done)); (first | exact GetN.cons rfl GetN.nil | (apply getN_ints_app; (first | omega | (simp; omega) | (simp; done))) | (apply getN_ints; (first | omega | (simp; omega) | (simp; done))))))); all_goals (first | (apply ol_gskip; exact rfl; exact rfl; (first | exact rfl | assumption); exact rfl) | (apply ol_gval; exact rfl; exact rfl; exact rfl; (first | exact rfl | assumption); apply stp_cmp; apply s_gtr; exact rfl; exact rfl; all_goals (intro hc43; try (exfalso; (first | exact hc43 rfl | omega))))); all_goals (apply ol_val; exact rfl; apply stp_pur; first | (apply s_pick_t; exact rfl; (first | exact rfl | assumption); exact rfl) | (apply s_pick_f; exact rfl; (first | exact rfl | assumption); exact rfl)); all_goals (apply ol_mv; exact rfl; exact rfl); all_goals (first | (apply ol_gskip; exact rfl; exact rfl; (first | exact rfl | assumption); exact rfl) | (apply ol_gval; exact rfl; exact rfl; exact rfl; (first | exact rfl | assumption); apply stp_pur; apply s_fieldAddr'; exact rfl; exact fd_41_3; (first | exact Nat.zero_add _ | exact Nat.add_zero _ | exact rfl))); all_goals (first | (apply ol_gskip; exact rfl; exact rfl; (first | exact rfl | assumption); exact rfl) | (apply ol_gval; exact rfl; exact rfl; exact rfl; (first | exact rfl | assumption); apply stp_pur; apply s_load1; exact rfl; exact rfl; (apply RdN.own; (focus ((repeat constructor); done)); exact GetN.cons rfl GetN.nil))); all_goals (first | (apply ol_gskip; exact rfl; exact rfl; (first | exact rfl | assumption); exact rfl) | (apply ol_gval; exact rfl; exact rfl; exact rfl; (first | exact rfl | assumption); apply stp_pur; apply s_len; exact rfl; exact el_39)); all_goals (first | (apply ol_gskip; exact rfl; exact rfl; (first | exact rfl | assumption); exact rfl) | (apply ol_gval; exact rfl; exact rfl; exact rfl; (first | exact rfl | assumption); apply stp_cmp; apply s_leq; exact rfl; exact rfl; all_goals (intro hc49; try (exfalso; (first | exact hc49 rfl | omega))))); all_goals (apply ol_val; exact rfl; apply stp_pur; first | (apply s_pick_t; exact rfl; (first | exact rfl | assumption); exact rfl) | (apply s_pick_f; exact rfl; (first | exact rfl | assumption); exact rfl)); all_goals (apply ol_mv; exact rfl; exact rfl); all_goals (first | (apply ol_gskip; exact rfl; exact rfl; (first | exact rfl | assumption); exact rfl) | (apply ol_gval; exact rfl; exact rfl; exact rfl; (first | exact rfl | assumption); apply stp_pur; apply s_fieldAddr'; exact rfl; exact fd_41_3; (first | exact Nat.zero_add _ | exact Nat.add_zero _ | exact rfl))); all_goals (first | (apply ol_gskip; exact rfl; exact rfl; (first | exact rfl | assumption); exact rfl) | (apply ol_gval; exact rfl; exact rfl; exact rfl; (first | exact rfl | assumption); apply stp_pur; apply s_load1; exact rfl; exact rfl; (apply RdN.own; (focus ((repeat constructor); done)); exact GetN.cons rfl GetN.nil))); all_goals (first | (apply ol_gskip; exact rfl; exact rfl; (first | exact rfl | assumption); exact rfl) | (apply ol_gval; exact rfl; exact rfl; exact rfl; (first | exact rfl | assumption); apply stp_pur; apply s_makeFunc; exact rfl; exact rfl)); all_goals (first | (apply ol_gskip; exact rfl; exact rfl; (first | exact rfl | assumption); exact rfl) | (apply ol_gval; exact rfl; exact rfl; exact rfl; (first | exact rfl | assumption); fail)); all_goals (first | (apply ol_gskip; exact rfl; exact rfl; (first | exact rfl | assumption); exact rfl) | (apply ol_gval; exact rfl; exact rfl; exact rfl; (first | exact rfl | assumption); apply stp_pur; first | (apply s_not_t; exact rfl; (first | exact rfl | assumption)) | (apply s_not_f; exact rfl; (first | exact rfl | assumption)) | (apply s_not; exact rfl))); all_goals (apply ol_val; exact rfl; apply stp_pur; first | (apply s_pick_t; exact rfl; (first | exact rfl | assumption); exact rfl) | (apply s_pick_f; exact rfl; (first | exact rfl | assumption); exact rfl)); all_goals (apply ol_as; exact rfl; exact rfl); all_goals (apply ol_nil))
        | (refine cw_region_id 8 ?_; (apply ol_as; exact rfl; exact rfl); (apply ol_nil))
        | (apply cw_cond_true; exact rfl; (first | exact rfl | assumption))
        | (apply cw_cond_false; exact rfl; (first | exact rfl | assumption))
        | apply cw_skip
        | apply cw_ret
        | apply cw_block
        | apply cw_exit
      all_goals (refine ends [] (RVal.tmp rfl RVal.nil) Pick.nil ?_; rfl)
/-- What the function that is handed on says of an item in a list. -/
theorem clo_spec {M : View} {w : World} (hM : View.le M (View.of w)) {d : Nat} (hd : d ≤ 100) {x : It d} {r : Bool} (ih : ∀ (w' : World), View.le M (View.of w') → FnC Tryd.prog 50 [.agg x.enc.toArray, .int .i64 d] w' (fun v _ => v = .bool r)) {b : Nat} (hb : GetN (M.cell b) 0 1 [.int .i64 ((d + 1 : Nat) : Int)]) :
    FnC Tryd.prog 57 [.agg x.enc.toArray, .pointer (some ⟨b, 0, none⟩)] w (fun v _ => v = .bool (!r)) := by
  rw [show ((d : Nat) : Int) = ((d + 1 : Nat) : Int) - 1 by omega] at ih
  unfold It.enc at *
  generalize x.hd = h at *
  obtain ⟨k, n, ⟨xs, Ba, Bb, Bo, Bc⟩, La, Lb, Lo, Lc, m⟩ := h
  dsimp only at ih ⊢
  refine enterF (M := M) Tryd.func57 rfl rfl rfl rfl hM ?_
  repeat' first
    | apply cw_seq
    | (refine cw_region_id 0 ?_; (apply ol_val; exact rfl; first | (apply s_boxN; exact rfl; intro bk2) | (apply s_box1; exact rfl; exact rfl; intro bk2)); (apply ol_as; exact rfl; exact rfl); (apply ol_nil))
    | (refine cw_region_id 1 ?_; (apply ol_ldN; exact rfl; exact rfl; exact rfl; exact sz_41; (first | (apply RdN.own; (focus ((repeat constructor); done)); (focus ((repeat (first | exact rfl | constructor)); done))) | (apply RdN.view; exact hb))); (apply ol_ld; exact rfl; exact rfl; exact rfl; (first | (apply RdN.own; (focus ((repeat constructor); done)); (first | exact GetN.cons rfl GetN.nil | (apply getN_ints_app; (first | omega | (simp; omega) | (simp; done))) | (apply getN_ints; (first | omega | (simp; omega) | (simp; done))))) | (apply RdN.view; exact hb))); (apply ol_val; exact rfl; apply stp_pur; apply s_sub64; exact rfl; exact rfl; omega); (apply ol_val; exact rfl; apply s_callv; exact rfl; exact gf_50; (intro w' hw'; exact ih w' hw'.le)); (apply ol_val; exact rfl; apply stp_pur; first | (apply s_not_t; exact rfl; (first | exact rfl | assumption)) | (apply s_not_f; exact rfl; (first | exact rfl | assumption)) | (apply s_not; exact rfl)); (apply ol_as; exact rfl; exact rfl); (apply ol_nil))
    | (apply cw_cond_true; exact rfl; (first | exact rfl | assumption))
    | (apply cw_cond_false; exact rfl; (first | exact rfl | assumption))
    | apply cw_skip
    | apply cw_ret
    | apply cw_block
    | apply cw_exit
  refine ends [] (RVal.tmp rfl RVal.nil) Pick.nil ?_
  rfl
end Go.Proofs.YtkbbbflojebfgaaDoor
