/-
  Texts joined: A24 B1 B2 B3 B4 B5 C1 C2 C3 C4 C5.
-/
import Derived.Test.YtagmoecojmlogaaVt
namespace Go.Proofs.Ytagmoecojmlogaa
set_option maxRecDepth 20000
set_option linter.unusedSimpArgs false
set_option linter.unusedVariables false
open Go Go.Fw
theorem SetR.out {s : SV} {F : View} {u : Value} (h : SetR s F u) : ∃ ta tb to tc va vb vo vc, u = .agg [.int .i64 s.ro, .int .i64 s.ph, .int .i64 s.bk, .int .i64 s.bn, .slice ta s.tr.length tc, .slice va s.vo.length vc].toArray ∧ SlA F C3.enc 3 ta s.tr tb to ∧ SlA F (eK .i64) 1 va s.vo vb vo ∧ s.tr.length ≤ 100000 ∧ s.vo.length ≤ 100000 := by
  obtain ⟨⟨ro, ph, bk, bn, ⟨tr, ta, tb, to, tc⟩, ⟨vo, va, vb, vo', vc⟩⟩, rfl, rfl, h⟩ := h
  exact ⟨ta, tb, to, tc, va, vb, vo', vc, rfl, h.t, h.v, h.lt, h.lv⟩
theorem MsgsR.one {m : MV} {F : View} {v : Value} (h : MsgsR [m] F v) : ∃ (x : LM) (a : Option Addr) (b o c : Nat), v = .slice a 1 c ∧ SlA F LM.enc 5 a [x] b o ∧ LmV F x ∧ x.val = m := by
  obtain ⟨xs, a, b, o, c, rfl, h2, h3, h4, h5⟩ := h
  match xs, h4 with
  | [x], h4 =>
    injection h4 with h4 _
    exact ⟨x, a, b, o, c, rfl, h2, h3 x (List.mem_singleton.2 rfl), h4⟩
def exl : List C3 := [⟨0, 1, 5⟩]
theorem exN0 : newP 1 0 2 exl = (⟨1, 0, 0, 2, exl, []⟩, 0) := by decide +kernel
theorem exN1 : newP 1 1 2 exl = (⟨1, 0, 1, 2, exl, []⟩, 0) := by decide +kernel
theorem exB0 : beginP ⟨1, 0, 0, 2, exl, []⟩ = (⟨1, 1, 0, 2, exl, [1, 0]⟩, [⟨0, 1, 1, 1, bodyP exl⟩], 0) := by decide +kernel
theorem exR0 : recvP ⟨1, 0, 1, 2, exl, []⟩ ⟨0, 1, 1, 1, bodyP exl⟩ = (⟨1, 1, 1, 2, exl, []⟩, [⟨1, 0, 2, 1, [1]⟩], 0) := by decide +kernel
theorem exR1 : recvP ⟨1, 1, 0, 2, exl, [1, 0]⟩ ⟨1, 0, 2, 1, [1]⟩ = (⟨1, 2, 0, 2, exl, [1, 0]⟩, [⟨0, 1, 3, 1, [1]⟩], 0) := by decide +kernel
theorem exR2 : recvP ⟨1, 1, 1, 2, exl, []⟩ ⟨0, 1, 3, 1, [1]⟩ = (⟨1, 4, 1, 2, exl, []⟩, [⟨1, 0, 4, 1, []⟩], 0) := by decide +kernel
theorem exR3 : recvP ⟨1, 2, 0, 2, exl, [1, 0]⟩ ⟨1, 0, 4, 1, []⟩ = (⟨1, 4, 0, 2, exl, [1, 1]⟩, [], 0) := by decide +kernel
theorem exM0 : mnP ⟨1, 4, 0, 2, exl, [1, 1]⟩ = (-5, 0) := by decide +kernel
theorem exM1 : mnP ⟨1, 4, 1, 2, exl, []⟩ = (5, 0) := by decide +kernel
def aS (i : Nat) : SV := if i = 0 then ⟨1, 1, 0, 2, exl, [1, 0]⟩ else if i ≤ 2 then ⟨1, 2, 0, 2, exl, [1, 0]⟩ else ⟨1, 4, 0, 2, exl, [1, 1]⟩
def bS (i : Nat) : SV := if i ≤ 1 then ⟨1, 1, 1, 2, exl, []⟩ else ⟨1, 4, 1, 2, exl, []⟩
def mS (i : Nat) : List MV := if i = 0 then [⟨1, 0, 2, 1, [1]⟩] else if i = 1 then [⟨0, 1, 3, 1, [1]⟩] else if i = 2 then [⟨1, 0, 4, 1, []⟩] else []
structure ASt where
  i : Nat
  a : LS
  b : LS
  v : Value
  M : View
theorem LS.of {x : LS} {s : SV} {M : View} (h : x.val = s) (hx : LsV M x) : ∃ ta tb to tc va vb vo vc, x = ⟨s.ro, s.ph, s.bk, s.bn, ⟨s.tr, ta, tb, to, tc⟩, ⟨s.vo, va, vb, vo, vc⟩⟩ := by
  obtain ⟨ro, ph, bk, bn, ⟨tr, ta, tb, to, tc⟩, ⟨vo, va, vb, vo', vc⟩⟩ := x
  subst h
  exact ⟨ta, tb, to, tc, va, vb, vo', vc, rfl⟩
end Go.Proofs.Ytagmoecojmlogaa
namespace Go.Proofs.Ytagmoecojmlogaa
set_option maxRecDepth 20000
set_option linter.unusedSimpArgs false
set_option linter.unusedVariables false
open Go Go.Fw
attribute [local irreducible] CW OL OD FX Stp FnC FnV FnA FnM Ret svB noneV hz bodyP strOf mvB bitM coordP partP recvP beginP tickP newP mnP exl
set_option maxHeartbeats 1600000
theorem awake_spec (w : World) : FnC Try.prog 8 [] w (fun v _ => v = .bool true) := by
  have hx1 : exl.length = 1 := by unfold exl; rfl
  have hfx : flat C3.enc exl = [.int .i64 0, .int .i64 1, .int .i64 5] := by unfold exl; rfl
  refine enterF (M := View.of w) Try.func8 rfl rfl rfl rfl (View.le.refl _) ?_
  repeat' first
    | apply cw_seq
    | (refine cw_region_id 0 ?_; (apply ol_as; rfl; rfl); (apply ol_nil))
    | (refine cw_region_id 1 ?_; (apply ol_val; rfl; apply stp_pur; apply s_buildS; rfl; exact fs_61; exact zb_61; exact qR); (apply ol_val; rfl; apply s_buildSl; rfl; exact el_22; exact sz_61; exact zb_61; exact qN; rfl; rfl; (exact Nat.le_of_ble_eq_true rfl); exact qN; (focus ((repeat (first | exact Fil.nil | (apply Fil.one; rfl; rfl; (repeat (first | exact SetAt.zero | apply SetAt.succ))) | (apply Fil.agg; rfl; rfl; (repeat (first | exact SetN.nil | (apply SetN.cons; (repeat (first | exact SetAt.zero | apply SetAt.succ))))); (exact Nat.le_of_ble_eq_true rfl)))); done)); intro bk14); (apply ol_as; rfl; rfl); (apply ol_nil))
    | (refine cw_region_id 2 ?_; (apply ol_mv; rfl; rfl); (apply ol_val; rfl; apply s_callM (xs := []); rfl; exact gf_18; (focus ((repeat (first | exact Pk.nil | (apply Pk.cons; (repeat (first | exact Spl.here | apply Spl.there))))); done)); (intro w' M2 hw' hrd; (have hrow : OB.inV ⟨some bk14, flat C3.enc exl ++ [], 61⟩ M2 := by (rw [hfx]; exact hrd.row (by (repeat (first | exact Has.here | apply Has.there))))); (first | exact new_spec hrd.lw 1 0 2 hx1 (by omega) (SlA.inV (A := none) (r := some bk14) C3.enc_length hrow (fun e => by cases e)) | exact new_spec hrd.lw 1 1 2 hx1 (by omega) (SlA.inV (A := none) (r := some bk14) C3.enc_length hrow (fun e => by cases e)))); (intro v F17 ys M17 h hl17 hL17 hF17; (first | rw [exN0] at h | rw [exN1] at h); obtain ⟨u, rfl, hset, rfl⟩ := h; have ho := SetR.out hset; dsimp only at ho; clear hset; obtain ⟨ta17, tb17, to17, tc17, va17, vb17, vo17, vc17, rfl, st17, sv17, lt17, lv17⟩ := ho)); all_goals (apply ol_mv; rfl; rfl); all_goals (apply ol_ex; rfl; rfl; rfl); all_goals (apply ol_ex; rfl; rfl; rfl); all_goals (apply ol_val; rfl; apply s_alloc; exact zb_25; exact qN; intro bk2); all_goals (apply ol_eff; apply s_storeN; rfl; rfl; exact sz_25; rfl; rfl; exact qN; exact qN); all_goals (apply ol_as; rfl; rfl); all_goals (apply ol_nil))
    | (refine cw_region_id 3 ?_; (apply ol_mv; rfl; rfl); (apply ol_val; rfl; apply s_callM (xs := []); rfl; exact gf_18; (focus ((repeat (first | exact Pk.nil | (apply Pk.cons; (repeat (first | exact Spl.here | apply Spl.there))))); done)); (intro w' M2 hw' hrd; (have hrow : OB.inV ⟨some bk14, flat C3.enc exl ++ [], 61⟩ M2 := by (rw [hfx]; exact hrd.row (by (repeat (first | exact Has.here | apply Has.there))))); (first | exact new_spec hrd.lw 1 0 2 hx1 (by omega) (SlA.inV (A := none) (r := some bk14) C3.enc_length hrow (fun e => by cases e)) | exact new_spec hrd.lw 1 1 2 hx1 (by omega) (SlA.inV (A := none) (r := some bk14) C3.enc_length hrow (fun e => by cases e)))); (intro v F22 ys M22 h hl22 hL22 hF22; (first | rw [exN0] at h | rw [exN1] at h); obtain ⟨u, rfl, hset, rfl⟩ := h; have ho := SetR.out hset; dsimp only at ho; clear hset; obtain ⟨ta22, tb22, to22, tc22, va22, vb22, vo22, vc22, rfl, st22, sv22, lt22, lv22⟩ := ho)); all_goals (apply ol_mv; rfl; rfl); all_goals (apply ol_ex; rfl; rfl; rfl); all_goals (apply ol_ex; rfl; rfl; rfl); all_goals (apply ol_val; rfl; apply s_alloc; exact zb_25; exact qN; intro bk4); all_goals (apply ol_eff; apply s_storeN; rfl; rfl; exact sz_25; rfl; rfl; exact qN; exact qN); all_goals (apply ol_as; rfl; rfl); all_goals (apply ol_nil))
    | (refine cw_region_id 4 ?_; (apply ol_ldN; rfl; rfl; rfl; exact sz_25; (first | exact qQ | (apply RdN.view; exact hci))); (apply ol_val; rfl; apply s_callM (xs := []); rfl; exact gf_19; (focus ((repeat (first | exact Pk.nil | (apply Pk.cons; (repeat (first | exact Spl.here | apply Spl.there))))); done)); (intro w' M2 hw' hrd; exact begin_spec hw'.le (s := ⟨1, 0, 0, 2, ⟨exl, ta17, tb17, to17, tc17⟩, ⟨[], va17, vb17, vo17, vc17⟩⟩) ⟨st17.mono (hL17.trans hl22), sv17.mono (hL17.trans hl22), lt17, lv17⟩); (intro v F27 ys M27 h hl27 hL27 hF27; unfold LS.val at h; dsimp only at h; rw [exB0] at h; obtain ⟨u, l, rfl, hset, hm, rfl⟩ := h; have ho := SetR.out hset; dsimp only at ho hm; clear hset; obtain ⟨ta27, tb27, to27, tc27, va27, vb27, vo27, vc27, rfl, st27, sv27, lt27, lv27⟩ := ho; obtain ⟨x, am, bm, om, cm, rfl, sm, hx, hxv⟩ := MsgsR.one hm; have hci := (sm.mono hL27).cells 0 (by rw [List.length_singleton]; omega); rw [List.getElem_cons_zero] at hci)); (apply ol_mv; rfl; rfl); (apply ol_ex; rfl; rfl; rfl); (apply ol_ex; rfl; rfl; rfl); (apply ol_ex; rfl; rfl; rfl); (apply ol_eff; apply s_storeN; rfl; rfl; exact sz_25; rfl; rfl; exact qN; exact qN); (apply ol_as; rfl; rfl); (apply ol_as; rfl; rfl); (apply ol_nil))
    | (refine cw_region_id 5 ?_; (apply ol_mv; rfl; rfl); (apply ol_val; rfl; apply stp_cmp; apply s_neq; rfl; rfl; all_goals (intro hc32; try (exfalso; (first | exact hc32 rfl | omega)))); all_goals (apply ol_mv; rfl; rfl); all_goals (first | (apply ol_gskip; rfl; rfl; exact qA; rfl) | (apply ol_gval; rfl; rfl; rfl; exact qA; apply stp_pur; apply s_move; rfl)); all_goals (first | (apply ol_gskip; rfl; rfl; exact qA; rfl) | (apply ol_gval; rfl; rfl; rfl; exact qA; apply stp_cmp; apply s_neq; rfl; rfl; all_goals (intro hc35; try (exfalso; (first | exact hc35 rfl | omega))))); all_goals (apply ol_val; rfl; apply stp_pur; first | (apply s_pick_t; rfl; exact qA; rfl) | (apply s_pick_f; rfl; exact qA; rfl)); all_goals (apply ol_mv; rfl; rfl); all_goals (first | (apply ol_gskip; rfl; rfl; exact qA; rfl) | (apply ol_gval; rfl; rfl; rfl; exact qA; apply stp_pur; apply s_move; rfl)); all_goals (first | (apply ol_gskip; rfl; rfl; exact qA; rfl) | (apply ol_gval; rfl; rfl; rfl; exact qA; apply stp_cmp; apply s_neq; rfl; rfl; all_goals (intro hc39; try (exfalso; (first | exact hc39 rfl | omega))))); all_goals (apply ol_val; rfl; apply stp_pur; first | (apply s_pick_t; rfl; exact qA; rfl) | (apply s_pick_f; rfl; exact qA; rfl)); all_goals (apply ol_mv; rfl; rfl); all_goals (first | (apply ol_gskip; rfl; rfl; exact qA; rfl) | (apply ol_gval; rfl; rfl; rfl; exact qA; apply stp_pur; apply s_move; rfl)); all_goals (first | (apply ol_gskip; rfl; rfl; exact qA; rfl) | (apply ol_gval; rfl; rfl; rfl; exact qA; apply stp_pur; apply s_len; rfl; exact el_31)); all_goals (first | (apply ol_gskip; rfl; rfl; exact qA; rfl) | (apply ol_gval; rfl; rfl; rfl; exact qA; apply stp_cmp; apply s_neq; rfl; rfl; all_goals (intro hc44; try (exfalso; (first | exact hc44 rfl | omega))))); all_goals (apply ol_val; rfl; apply stp_pur; first | (apply s_pick_t; rfl; exact qA; rfl) | (apply s_pick_f; rfl; exact qA; rfl)); all_goals (apply ol_nil))
    | (refine cw_drawW (id := 7) (own0 := []) 11 (.mv 1 (.mv 2 (.mv 3 (.fx 0 (.fx 4 (.mv 5 (.mv 6 (.mv 7 (.mv 8 (.fx 9 (.mv 10 (PT.nil)))))))))))) mixed (by kernel_rfl) (by (first | exact Wk.refl _ _ | exact qW)) ?_; (apply od_mv; rfl; rfl; apply s_move; rfl); (apply od_mv; rfl; rfl; first | (apply s_indexK; rfl; rfl; exact el_31; exact sz_28; (first | rfl | exact sm.at_ (by rw [List.length_singleton]; omega)); omega) | (apply s_indexO; rfl; rfl; exact el_31; exact sz_28; (first | rfl | exact sm.at_ (by rw [List.length_singleton]; omega)); omega)); (apply od_mv; rfl; rfl; apply s_loadN; rfl; rfl; exact sz_28; (first | exact qQ | (apply RdN.view; exact hci))); (apply od_fx; (first | exact Wk.refl _ _ | exact qW); (apply fx_val; rfl; rfl; apply stp_pur; apply s_loadN; rfl; rfl; exact sz_25; (first | exact qQ | (apply RdN.view; exact hci)))); (apply od_fx; (first | exact Wk.refl _ _ | exact qW); (apply fx_val; rfl; rfl; apply s_callM (xs := []); rfl; exact gf_10; (focus ((repeat (first | exact Pk.nil | (apply Pk.cons; (repeat (first | exact Spl.here | apply Spl.there))))); done)); (intro w' M2 hw' hrd; exact receive_spec hw'.le (s := ⟨1, 0, 1, 2, ⟨exl, ta22, tb22, to22, tc22⟩, ⟨[], va22, vb22, vo22, vc22⟩⟩) ⟨st22.mono (hL22.trans hl27), sv22.mono (hL22.trans hl27), lt22, lv22⟩ (hx.mono hL27)); (intro v F51 ys M51 h hl51 hL51 hF51; unfold LS.val at h; dsimp only at h; rw [hxv, exR0] at h; obtain ⟨u, l51, rfl, hset, hm51, rfl⟩ := h; have ho := SetR.out hset; dsimp only at ho hm51; clear hset; obtain ⟨ta51, tb51, to51, tc51, va51, vb51, vo51, vc51, rfl, st51, sv51, lt51, lv51⟩ := ho))); (apply od_mv; rfl; rfl; apply s_move; rfl); (apply od_mv; rfl; rfl; apply s_extract; rfl; rfl); (apply od_mv; rfl; rfl; apply s_extract; rfl; rfl); (apply od_mv; rfl; rfl; apply s_extract; rfl; rfl); (apply od_fx; (first | exact Wk.refl _ _ | exact qW); (apply fx_eff; rfl; apply s_storeN; rfl; rfl; exact sz_25; rfl; rfl; exact qN; exact qN)); (apply od_mv; rfl; rfl; apply s_assign; rfl); (apply od_nil; (first | exact Wk.refl _ _ | exact qW)); (apply ol_as; rfl; rfl); (apply ol_nil))
    | (refine cw_region_id 8 ?_; (apply ol_as; rfl; rfl); (apply ol_nil))
    | (apply cw_cond_true; rfl; exact qA)
    | (apply cw_cond_false; rfl; exact qA)
    | apply cw_skip
    | apply cw_ret
    | apply cw_block
    | apply cw_exit
  refine cw_loopK (σ := ASt) [2, 4] (by (repeat (first | exact Keep.nil | (apply Keep.cons; rfl)))) (fun s => [(6, s.v), (7, .int .i64 0), (8, .int .i64 s.i)]) (fun s => s.M) (fun s => [⟨some bk4, s.b.enc, 25⟩, ⟨some bk2, s.a.enc, 25⟩]) (fun s => s.i ≤ 3 ∧ s.a.val = aS s.i ∧ s.b.val = bS s.i ∧ LsV s.M s.a ∧ LsV s.M s.b ∧ MsgsR (mS s.i) s.M s.v) (fun s => 3 - s.i) ⟨0, ⟨1, 1, 0, 2, ⟨exl, ta27, tb27, to27, tc27⟩, ⟨[1, 0], va27, vb27, vo27, vc27⟩⟩, ⟨1, 1, 1, 2, ⟨exl, ta51, tb51, to51, tc51⟩, ⟨[], va51, vb51, vo51, vc51⟩⟩, l51, M51⟩ (by (repeat (first | exact trivial | refine And.intro rfl ?_))) (View.le.refl _) (by exact qK) ⟨(by dsimp only; omega), rfl, rfl, ⟨st27.mono (hL27.trans hl51), sv27.mono (hL27.trans hl51), lt27, lv27⟩, ⟨st51.mono hL51, sv51.mono hL51, lt51, lv51⟩, hm51.mono hL51⟩ ?_
  rintro ⟨i, a, b, v, N⟩ ⟨hi, ha, hb, hva, hvb, hmv⟩
  dsimp only at hi ha hb hva hvb hmv
  dsimp only
  obtain ⟨xa, ya, za, wa, xb, yb, zb, wb, rfl⟩ := LS.of ha hva
  obtain ⟨pa, qa, ra, sa, pb, qb, rb, sb, rfl⟩ := LS.of hb hvb
  clear ha hb
  unfold LS.enc
  dsimp only
  obtain rfl | rfl | rfl | rfl : i = 0 ∨ i = 1 ∨ i = 2 ∨ i = 3 := by omega
  · rw [show aS 0 = ⟨1, 1, 0, 2, exl, [1, 0]⟩ from rfl] at hva ⊢
    rw [show bS 0 = ⟨1, 1, 1, 2, exl, []⟩ from rfl] at hvb ⊢
    rw [show mS 0 = [⟨1, 0, 2, 1, [1]⟩] from rfl] at hmv
    dsimp only at hva hvb ⊢
    obtain ⟨x, am, bm, om, cm, rfl, sm, hx, hxv⟩ := MsgsR.one hmv
    have hci := sm.cells 0 (by rw [List.length_singleton]; omega)
    rw [List.getElem_cons_zero] at hci
    clear hmv
    repeat' first
      | apply cw_seq
      | (refine cw_region_id 9 ?_; (apply ol_mv; rfl; rfl); (apply ol_val; rfl; apply stp_cmp; apply s_lss; rfl; rfl; all_goals (intro hc56; try (exfalso; (first | exact hc56 rfl | omega)))); all_goals (apply ol_nil))
      | (refine cw_region_id 11 ?_; (apply ol_mv; rfl; rfl); (apply ol_val; rfl; apply stp_cmp; apply s_neq; rfl; rfl; all_goals (intro hc60; try (exfalso; (first | exact hc60 rfl | omega)))); all_goals (apply ol_mv; rfl; rfl); all_goals (first | (apply ol_gskip; rfl; rfl; exact qA; rfl) | (apply ol_gval; rfl; rfl; rfl; exact qA; apply stp_pur; apply s_move; rfl)); all_goals (first | (apply ol_gskip; rfl; rfl; exact qA; rfl) | (apply ol_gval; rfl; rfl; rfl; exact qA; apply stp_pur; apply s_len; rfl; exact el_31)); all_goals (first | (apply ol_gskip; rfl; rfl; exact qA; rfl) | (apply ol_gval; rfl; rfl; rfl; exact qA; apply stp_cmp; apply s_neq; rfl; rfl; all_goals (intro hc64; try (exfalso; (first | exact hc64 rfl | omega))))); all_goals (apply ol_val; rfl; apply stp_pur; first | (apply s_pick_t; rfl; exact qA; rfl) | (apply s_pick_f; rfl; exact qA; rfl)); all_goals (apply ol_nil))
      | (refine cw_region_id 13 ?_; (apply ol_mv; rfl; rfl); (apply ol_val; rfl; apply stp_cmp; apply s_eql; rfl; rfl; all_goals (intro hc67; try (exfalso; (first | exact hc67 rfl | omega)))); all_goals (apply ol_nil))
      | (refine cw_drawW (id := 15) (own0 := []) 11 (.mv 1 (.mv 2 (.mv 3 (.fx 0 (.fx 4 (.mv 5 (.mv 6 (.mv 7 (.mv 8 (.fx 9 (.mv 10 (PT.nil)))))))))))) mixed (by kernel_rfl) (by (first | exact Wk.refl _ _ | exact qW)) ?_; (apply od_mv; rfl; rfl; apply s_move; rfl); (apply od_mv; rfl; rfl; first | (apply s_indexK; rfl; rfl; exact el_31; exact sz_28; (first | rfl | exact sm.at_ (by rw [List.length_singleton]; omega)); omega) | (apply s_indexO; rfl; rfl; exact el_31; exact sz_28; (first | rfl | exact sm.at_ (by rw [List.length_singleton]; omega)); omega)); (apply od_mv; rfl; rfl; apply s_loadN; rfl; rfl; exact sz_28; (first | exact qQ | (apply RdN.view; exact hci))); (apply od_fx; (first | exact Wk.refl _ _ | exact qW); (apply fx_val; rfl; rfl; apply stp_pur; apply s_loadN; rfl; rfl; exact sz_25; (first | exact qQ | (apply RdN.view; exact hci)))); (apply od_fx; (first | exact Wk.refl _ _ | exact qW); (apply fx_val; rfl; rfl; apply s_callM (xs := []); rfl; exact gf_10; (focus ((repeat (first | exact Pk.nil | (apply Pk.cons; (repeat (first | exact Spl.here | apply Spl.there))))); done)); (intro w' M2 hw' hrd; exact receive_spec hw'.le (s := ⟨1, 1, 0, 2, ⟨exl, xa, ya, za, wa⟩, ⟨[1, 0], xb, yb, zb, wb⟩⟩) (hva.mono (View.le.refl _)) (hx.mono (View.le.refl _))); (intro v F82 ys M82 h hl82 hL82 hF82; unfold LS.val at h; dsimp only at h; rw [hxv, exR1] at h; obtain ⟨u, l82, rfl, hset, hm82, rfl⟩ := h; have ho := SetR.out hset; dsimp only at ho hm82; clear hset; obtain ⟨ta82, tb82, to82, tc82, va82, vb82, vo82, vc82, rfl, st82, sv82, lt82, lv82⟩ := ho))); (apply od_mv; rfl; rfl; apply s_move; rfl); (apply od_mv; rfl; rfl; apply s_extract; rfl; rfl); (apply od_mv; rfl; rfl; apply s_extract; rfl; rfl); (apply od_mv; rfl; rfl; apply s_extract; rfl; rfl); (apply od_fx; (first | exact Wk.refl _ _ | exact qW); (apply fx_eff; rfl; apply s_storeN; rfl; rfl; exact sz_25; rfl; rfl; exact qN; exact qN)); (apply od_mv; rfl; rfl; apply s_assign; rfl); (apply od_nil; (first | exact Wk.refl _ _ | exact qW)); (apply ol_as; rfl; rfl); (apply ol_nil))
      | (refine cw_region_id 10 ?_; (apply ol_mv; rfl; rfl); (apply ol_val; rfl; apply stp_pur; apply s_add64; rfl; rfl; omega); (apply ol_as; rfl; rfl); (apply ol_nil))
      | (apply cw_cond_true; rfl; exact qA)
      | (apply cw_cond_false; rfl; exact qA)
      | apply cw_skip
      | apply cw_ret
      | apply cw_block
      | apply cw_exit
    all_goals (exact ⟨⟨1, ⟨1, 2, 0, 2, ⟨exl, ta82, tb82, to82, tc82⟩, ⟨[1, 0], va82, vb82, vo82, vc82⟩⟩, ⟨1, 1, 1, 2, ⟨exl, pa, qa, ra, sa⟩, ⟨[], pb, qb, rb, sb⟩⟩, l82, M82⟩, ⟨by (repeat (first | exact trivial | refine And.intro rfl ?_)), View.le.refl _, by exact qK, ⟨(by dsimp only; omega), rfl, rfl, ⟨st82.mono hL82, sv82.mono hL82, lt82, lv82⟩, hvb.mono hl82, hm82.mono hL82⟩, by dsimp only; omega⟩⟩)
  · rw [show aS 1 = ⟨1, 2, 0, 2, exl, [1, 0]⟩ from rfl] at hva ⊢
    rw [show bS 1 = ⟨1, 1, 1, 2, exl, []⟩ from rfl] at hvb ⊢
    rw [show mS 1 = [⟨0, 1, 3, 1, [1]⟩] from rfl] at hmv
    dsimp only at hva hvb ⊢
    obtain ⟨x, am, bm, om, cm, rfl, sm, hx, hxv⟩ := MsgsR.one hmv
    have hci := sm.cells 0 (by rw [List.length_singleton]; omega)
    rw [List.getElem_cons_zero] at hci
    clear hmv
    repeat' first
      | apply cw_seq
      | (refine cw_region_id 9 ?_; (apply ol_mv; rfl; rfl); (apply ol_val; rfl; apply stp_cmp; apply s_lss; rfl; rfl; all_goals (intro hc56; try (exfalso; (first | exact hc56 rfl | omega)))); all_goals (apply ol_nil))
      | (refine cw_region_id 11 ?_; (apply ol_mv; rfl; rfl); (apply ol_val; rfl; apply stp_cmp; apply s_neq; rfl; rfl; all_goals (intro hc60; try (exfalso; (first | exact hc60 rfl | omega)))); all_goals (apply ol_mv; rfl; rfl); all_goals (first | (apply ol_gskip; rfl; rfl; exact qA; rfl) | (apply ol_gval; rfl; rfl; rfl; exact qA; apply stp_pur; apply s_move; rfl)); all_goals (first | (apply ol_gskip; rfl; rfl; exact qA; rfl) | (apply ol_gval; rfl; rfl; rfl; exact qA; apply stp_pur; apply s_len; rfl; exact el_31)); all_goals (first | (apply ol_gskip; rfl; rfl; exact qA; rfl) | (apply ol_gval; rfl; rfl; rfl; exact qA; apply stp_cmp; apply s_neq; rfl; rfl; all_goals (intro hc64; try (exfalso; (first | exact hc64 rfl | omega))))); all_goals (apply ol_val; rfl; apply stp_pur; first | (apply s_pick_t; rfl; exact qA; rfl) | (apply s_pick_f; rfl; exact qA; rfl)); all_goals (apply ol_nil))
      | (refine cw_region_id 13 ?_; (apply ol_mv; rfl; rfl); (apply ol_val; rfl; apply stp_cmp; apply s_eql; rfl; rfl; all_goals (intro hc67; try (exfalso; (first | exact hc67 rfl | omega)))); all_goals (apply ol_nil))
      | (refine cw_drawW (id := 14) (own0 := []) 11 (.mv 1 (.mv 2 (.mv 3 (.fx 0 (.fx 4 (.mv 5 (.mv 6 (.mv 7 (.mv 8 (.fx 9 (.mv 10 (PT.nil)))))))))))) mixed (by kernel_rfl) (by (first | exact Wk.refl _ _ | exact qW)) ?_; (apply od_mv; rfl; rfl; apply s_move; rfl); (apply od_mv; rfl; rfl; first | (apply s_indexK; rfl; rfl; exact el_31; exact sz_28; (first | rfl | exact sm.at_ (by rw [List.length_singleton]; omega)); omega) | (apply s_indexO; rfl; rfl; exact el_31; exact sz_28; (first | rfl | exact sm.at_ (by rw [List.length_singleton]; omega)); omega)); (apply od_mv; rfl; rfl; apply s_loadN; rfl; rfl; exact sz_28; (first | exact qQ | (apply RdN.view; exact hci))); (apply od_fx; (first | exact Wk.refl _ _ | exact qW); (apply fx_val; rfl; rfl; apply stp_pur; apply s_loadN; rfl; rfl; exact sz_25; (first | exact qQ | (apply RdN.view; exact hci)))); (apply od_fx; (first | exact Wk.refl _ _ | exact qW); (apply fx_val; rfl; rfl; apply s_callM (xs := []); rfl; exact gf_10; (focus ((repeat (first | exact Pk.nil | (apply Pk.cons; (repeat (first | exact Spl.here | apply Spl.there))))); done)); (intro w' M2 hw' hrd; exact receive_spec hw'.le (s := ⟨1, 1, 1, 2, ⟨exl, pa, qa, ra, sa⟩, ⟨[], pb, qb, rb, sb⟩⟩) (hvb.mono (View.le.refl _)) (hx.mono (View.le.refl _))); (intro v F73 ys M73 h hl73 hL73 hF73; unfold LS.val at h; dsimp only at h; rw [hxv, exR2] at h; obtain ⟨u, l73, rfl, hset, hm73, rfl⟩ := h; have ho := SetR.out hset; dsimp only at ho hm73; clear hset; obtain ⟨ta73, tb73, to73, tc73, va73, vb73, vo73, vc73, rfl, st73, sv73, lt73, lv73⟩ := ho))); (apply od_mv; rfl; rfl; apply s_move; rfl); (apply od_mv; rfl; rfl; apply s_extract; rfl; rfl); (apply od_mv; rfl; rfl; apply s_extract; rfl; rfl); (apply od_mv; rfl; rfl; apply s_extract; rfl; rfl); (apply od_fx; (first | exact Wk.refl _ _ | exact qW); (apply fx_eff; rfl; apply s_storeN; rfl; rfl; exact sz_25; rfl; rfl; exact qN; exact qN)); (apply od_mv; rfl; rfl; apply s_assign; rfl); (apply od_nil; (first | exact Wk.refl _ _ | exact qW)); (apply ol_as; rfl; rfl); (apply ol_nil))
      | (refine cw_region_id 10 ?_; (apply ol_mv; rfl; rfl); (apply ol_val; rfl; apply stp_pur; apply s_add64; rfl; rfl; omega); (apply ol_as; rfl; rfl); (apply ol_nil))
      | (apply cw_cond_true; rfl; exact qA)
      | (apply cw_cond_false; rfl; exact qA)
      | apply cw_skip
      | apply cw_ret
      | apply cw_block
      | apply cw_exit
    all_goals (exact ⟨⟨2, ⟨1, 2, 0, 2, ⟨exl, xa, ya, za, wa⟩, ⟨[1, 0], xb, yb, zb, wb⟩⟩, ⟨1, 4, 1, 2, ⟨exl, ta73, tb73, to73, tc73⟩, ⟨[], va73, vb73, vo73, vc73⟩⟩, l73, M73⟩, ⟨by (repeat (first | exact trivial | refine And.intro rfl ?_)), View.le.refl _, by exact qK, ⟨(by dsimp only; omega), rfl, rfl, hva.mono hl73, ⟨st73.mono hL73, sv73.mono hL73, lt73, lv73⟩, hm73.mono hL73⟩, by dsimp only; omega⟩⟩)
  · rw [show aS 2 = ⟨1, 2, 0, 2, exl, [1, 0]⟩ from rfl] at hva ⊢
    rw [show bS 2 = ⟨1, 4, 1, 2, exl, []⟩ from rfl] at hvb ⊢
    rw [show mS 2 = [⟨1, 0, 4, 1, []⟩] from rfl] at hmv
    dsimp only at hva hvb ⊢
    obtain ⟨x, am, bm, om, cm, rfl, sm, hx, hxv⟩ := MsgsR.one hmv
    have hci := sm.cells 0 (by rw [List.length_singleton]; omega)
    rw [List.getElem_cons_zero] at hci
    clear hmv
    repeat' first
      | apply cw_seq
      | (refine cw_region_id 9 ?_; (apply ol_mv; rfl; rfl); (apply ol_val; rfl; apply stp_cmp; apply s_lss; rfl; rfl; all_goals (intro hc56; try (exfalso; (first | exact hc56 rfl | omega)))); all_goals (apply ol_nil))
      | (refine cw_region_id 11 ?_; (apply ol_mv; rfl; rfl); (apply ol_val; rfl; apply stp_cmp; apply s_neq; rfl; rfl; all_goals (intro hc60; try (exfalso; (first | exact hc60 rfl | omega)))); all_goals (apply ol_mv; rfl; rfl); all_goals (first | (apply ol_gskip; rfl; rfl; exact qA; rfl) | (apply ol_gval; rfl; rfl; rfl; exact qA; apply stp_pur; apply s_move; rfl)); all_goals (first | (apply ol_gskip; rfl; rfl; exact qA; rfl) | (apply ol_gval; rfl; rfl; rfl; exact qA; apply stp_pur; apply s_len; rfl; exact el_31)); all_goals (first | (apply ol_gskip; rfl; rfl; exact qA; rfl) | (apply ol_gval; rfl; rfl; rfl; exact qA; apply stp_cmp; apply s_neq; rfl; rfl; all_goals (intro hc64; try (exfalso; (first | exact hc64 rfl | omega))))); all_goals (apply ol_val; rfl; apply stp_pur; first | (apply s_pick_t; rfl; exact qA; rfl) | (apply s_pick_f; rfl; exact qA; rfl)); all_goals (apply ol_nil))
      | (refine cw_region_id 13 ?_; (apply ol_mv; rfl; rfl); (apply ol_val; rfl; apply stp_cmp; apply s_eql; rfl; rfl; all_goals (intro hc67; try (exfalso; (first | exact hc67 rfl | omega)))); all_goals (apply ol_nil))
      | (refine cw_drawW (id := 15) (own0 := []) 11 (.mv 1 (.mv 2 (.mv 3 (.fx 0 (.fx 4 (.mv 5 (.mv 6 (.mv 7 (.mv 8 (.fx 9 (.mv 10 (PT.nil)))))))))))) mixed (by kernel_rfl) (by (first | exact Wk.refl _ _ | exact qW)) ?_; (apply od_mv; rfl; rfl; apply s_move; rfl); (apply od_mv; rfl; rfl; first | (apply s_indexK; rfl; rfl; exact el_31; exact sz_28; (first | rfl | exact sm.at_ (by rw [List.length_singleton]; omega)); omega) | (apply s_indexO; rfl; rfl; exact el_31; exact sz_28; (first | rfl | exact sm.at_ (by rw [List.length_singleton]; omega)); omega)); (apply od_mv; rfl; rfl; apply s_loadN; rfl; rfl; exact sz_28; (first | exact qQ | (apply RdN.view; exact hci))); (apply od_fx; (first | exact Wk.refl _ _ | exact qW); (apply fx_val; rfl; rfl; apply stp_pur; apply s_loadN; rfl; rfl; exact sz_25; (first | exact qQ | (apply RdN.view; exact hci)))); (apply od_fx; (first | exact Wk.refl _ _ | exact qW); (apply fx_val; rfl; rfl; apply s_callM (xs := []); rfl; exact gf_10; (focus ((repeat (first | exact Pk.nil | (apply Pk.cons; (repeat (first | exact Spl.here | apply Spl.there))))); done)); (intro w' M2 hw' hrd; exact receive_spec hw'.le (s := ⟨1, 2, 0, 2, ⟨exl, xa, ya, za, wa⟩, ⟨[1, 0], xb, yb, zb, wb⟩⟩) (hva.mono (View.le.refl _)) (hx.mono (View.le.refl _))); (intro v F82 ys M82 h hl82 hL82 hF82; unfold LS.val at h; dsimp only at h; rw [hxv, exR3] at h; obtain ⟨u, l82, rfl, hset, hm82, rfl⟩ := h; have ho := SetR.out hset; dsimp only at ho hm82; clear hset; obtain ⟨ta82, tb82, to82, tc82, va82, vb82, vo82, vc82, rfl, st82, sv82, lt82, lv82⟩ := ho))); (apply od_mv; rfl; rfl; apply s_move; rfl); (apply od_mv; rfl; rfl; apply s_extract; rfl; rfl); (apply od_mv; rfl; rfl; apply s_extract; rfl; rfl); (apply od_mv; rfl; rfl; apply s_extract; rfl; rfl); (apply od_fx; (first | exact Wk.refl _ _ | exact qW); (apply fx_eff; rfl; apply s_storeN; rfl; rfl; exact sz_25; rfl; rfl; exact qN; exact qN)); (apply od_mv; rfl; rfl; apply s_assign; rfl); (apply od_nil; (first | exact Wk.refl _ _ | exact qW)); (apply ol_as; rfl; rfl); (apply ol_nil))
      | (refine cw_region_id 10 ?_; (apply ol_mv; rfl; rfl); (apply ol_val; rfl; apply stp_pur; apply s_add64; rfl; rfl; omega); (apply ol_as; rfl; rfl); (apply ol_nil))
      | (apply cw_cond_true; rfl; exact qA)
      | (apply cw_cond_false; rfl; exact qA)
      | apply cw_skip
      | apply cw_ret
      | apply cw_block
      | apply cw_exit
    all_goals (exact ⟨⟨3, ⟨1, 4, 0, 2, ⟨exl, ta82, tb82, to82, tc82⟩, ⟨[1, 1], va82, vb82, vo82, vc82⟩⟩, ⟨1, 4, 1, 2, ⟨exl, pa, qa, ra, sa⟩, ⟨[], pb, qb, rb, sb⟩⟩, l82, M82⟩, ⟨by (repeat (first | exact trivial | refine And.intro rfl ?_)), View.le.refl _, by exact qK, ⟨(by dsimp only; omega), rfl, rfl, ⟨st82.mono hL82, sv82.mono hL82, lt82, lv82⟩, hvb.mono hl82, hm82.mono hL82⟩, by dsimp only; omega⟩⟩)
  · rw [show aS 3 = ⟨1, 4, 0, 2, exl, [1, 1]⟩ from rfl] at hva ⊢
    rw [show bS 3 = ⟨1, 4, 1, 2, exl, []⟩ from rfl] at hvb ⊢
    clear hmv
    dsimp only at hva hvb ⊢
    have k1 : ∀ w', View.le N (View.of w') → _ := fun w' h => mine_spec h hva
    have k2 : ∀ w', View.le N (View.of w') → _ := fun w' h => mine_spec h hvb
    unfold LS.val LS.enc at k1 k2
    dsimp only at k1 k2
    rw [exM0] at k1
    rw [exM1] at k2
    dsimp only at k1 k2
    repeat' first
      | apply cw_seq
      | (refine cw_region_id 9 ?_; (apply ol_mv; rfl; rfl); (apply ol_val; rfl; apply stp_cmp; apply s_lss; rfl; rfl; all_goals (intro hc56; try (exfalso; (first | exact hc56 rfl | omega)))); all_goals (apply ol_nil))
      | (refine cw_region_id 16 ?_; (apply ol_ldN; rfl; rfl; rfl; exact sz_25; exact qQ); (apply ol_val; rfl; apply s_callv; rfl; exact gf_15; (intro w' hw'; first | exact k1 w' hw'.le | exact k2 w' hw'.le)); (apply ol_mv; rfl; rfl); (apply ol_ex; rfl; rfl; rfl); (apply ol_ex; rfl; rfl; rfl); (apply ol_as; rfl; rfl); (apply ol_as; rfl; rfl); (apply ol_nil))
      | (refine cw_region_id 17 ?_; (apply ol_ldN; rfl; rfl; rfl; exact sz_25; exact qQ); (apply ol_val; rfl; apply s_callv; rfl; exact gf_15; (intro w' hw'; first | exact k1 w' hw'.le | exact k2 w' hw'.le)); (apply ol_mv; rfl; rfl); (apply ol_ex; rfl; rfl; rfl); (apply ol_ex; rfl; rfl; rfl); (apply ol_as; rfl; rfl); (apply ol_as; rfl; rfl); (apply ol_nil))
      | (refine cw_region_id 18 ?_; (apply ol_mv; rfl; rfl); (apply ol_val; rfl; apply stp_cmp; apply s_eql; rfl; rfl; all_goals (intro hc97; try (exfalso; (first | exact hc97 rfl | omega)))); all_goals (apply ol_mv; rfl; rfl); all_goals (first | (apply ol_gskip; rfl; rfl; exact qA; rfl) | (apply ol_gval; rfl; rfl; rfl; exact qA; apply stp_pur; apply s_fieldAddr'; rfl; exact fd_25_1; exact qZ)); all_goals (first | (apply ol_gskip; rfl; rfl; exact qA; rfl) | (apply ol_gval; rfl; rfl; rfl; exact qA; apply stp_pur; apply s_load1; rfl; rfl; exact qP)); all_goals (first | (apply ol_gskip; rfl; rfl; exact qA; rfl) | (apply ol_gval; rfl; rfl; rfl; exact qA; apply stp_cmp; apply s_eql; rfl; rfl; all_goals (intro hc101; try (exfalso; (first | exact hc101 rfl | omega))))); all_goals (apply ol_val; rfl; apply stp_pur; first | (apply s_pick_t; rfl; exact qA; rfl) | (apply s_pick_f; rfl; exact qA; rfl)); all_goals (apply ol_mv; rfl; rfl); all_goals (first | (apply ol_gskip; rfl; rfl; exact qA; rfl) | (apply ol_gval; rfl; rfl; rfl; exact qA; apply stp_pur; apply s_fieldAddr'; rfl; exact fd_25_1; exact qZ)); all_goals (first | (apply ol_gskip; rfl; rfl; exact qA; rfl) | (apply ol_gval; rfl; rfl; rfl; exact qA; apply stp_pur; apply s_load1; rfl; rfl; exact qP)); all_goals (first | (apply ol_gskip; rfl; rfl; exact qA; rfl) | (apply ol_gval; rfl; rfl; rfl; exact qA; apply stp_cmp; apply s_eql; rfl; rfl; all_goals (intro hc106; try (exfalso; (first | exact hc106 rfl | omega))))); all_goals (apply ol_val; rfl; apply stp_pur; first | (apply s_pick_t; rfl; exact qA; rfl) | (apply s_pick_f; rfl; exact qA; rfl)); all_goals (apply ol_mv; rfl; rfl); all_goals (first | (apply ol_gskip; rfl; rfl; exact qA; rfl) | (apply ol_gval; rfl; rfl; rfl; exact qA; apply stp_pur; apply s_move; rfl)); all_goals (first | (apply ol_gskip; rfl; rfl; exact qA; rfl) | (apply ol_gval; rfl; rfl; rfl; exact qA; apply stp_cmp; apply s_eql; rfl; rfl; all_goals (intro hc110; try (exfalso; (first | exact hc110 rfl | omega))))); all_goals (apply ol_val; rfl; apply stp_pur; first | (apply s_pick_t; rfl; exact qA; rfl) | (apply s_pick_f; rfl; exact qA; rfl)); all_goals (apply ol_mv; rfl; rfl); all_goals (first | (apply ol_gskip; rfl; rfl; exact qA; rfl) | (apply ol_gval; rfl; rfl; rfl; exact qA; apply stp_pur; apply s_move; rfl)); all_goals (first | (apply ol_gskip; rfl; rfl; exact qA; rfl) | (apply ol_gval; rfl; rfl; rfl; exact qA; apply stp_cmp; apply s_eql; rfl; rfl; all_goals (intro hc114; try (exfalso; (first | exact hc114 rfl | omega))))); all_goals (apply ol_val; rfl; apply stp_pur; first | (apply s_pick_t; rfl; exact qA; rfl) | (apply s_pick_f; rfl; exact qA; rfl)); all_goals (apply ol_mv; rfl; rfl); all_goals (first | (apply ol_gskip; rfl; rfl; exact qA; rfl) | (apply ol_gval; rfl; rfl; rfl; exact qA; apply stp_pur; apply s_move; rfl)); all_goals (first | (apply ol_gskip; rfl; rfl; exact qA; rfl) | (apply ol_gval; rfl; rfl; rfl; exact qA; apply stp_cmp; apply s_eql; rfl; rfl; all_goals (intro hc118; try (exfalso; (first | exact hc118 rfl | omega))))); all_goals (apply ol_val; rfl; apply stp_pur; first | (apply s_pick_t; rfl; exact qA; rfl) | (apply s_pick_f; rfl; exact qA; rfl)); all_goals (apply ol_mv; rfl; rfl); all_goals (first | (apply ol_gskip; rfl; rfl; exact qA; rfl) | (apply ol_gval; rfl; rfl; rfl; exact qA; apply stp_pur; apply s_move; rfl)); all_goals (first | (apply ol_gskip; rfl; rfl; exact qA; rfl) | (apply ol_gval; rfl; rfl; rfl; exact qA; apply stp_cmp; apply s_eql; rfl; rfl; all_goals (intro hc122; try (exfalso; (first | exact hc122 rfl | omega))))); all_goals (apply ol_val; rfl; apply stp_pur; first | (apply s_pick_t; rfl; exact qA; rfl) | (apply s_pick_f; rfl; exact qA; rfl)); all_goals (apply ol_as; rfl; rfl); all_goals (apply ol_nil))
      | (apply cw_cond_true; rfl; exact qA)
      | (apply cw_cond_false; rfl; exact qA)
      | apply cw_skip
      | apply cw_ret
      | apply cw_block
      | apply cw_exit
    all_goals (refine ends [] (RVal.tmp rfl RVal.nil) Pick.nil ?_; rfl)
end Go.Proofs.Ytagmoecojmlogaa
namespace Go.Proofs.Ytagmoecojmlogaa
set_option maxRecDepth 20000
set_option linter.unusedSimpArgs false
set_option linter.unusedVariables false
open Go Go.Fw
/-- Banks and the messages under way. -/
structure YS where
  bs : List SV
  way : List MV
def bank (y : YS) (i : Nat) : SV := y.bs.getD i zSV
def tickY (y : YS) (i : Nat) : YS := ⟨y.bs.set i (tickP (bank y i)).1, y.way ++ (tickP (bank y i)).2.1⟩
def dlvY (y : YS) (m : MV) : YS := ⟨y.bs.set m.to.toNat (recvP (bank y m.to.toNat) m).1, y.way ++ (recvP (bank y m.to.toNat) m).2.1⟩
theorem bank_set {bs : List SV} {way way' : List MV} {i j : Nat} {s : SV} (hi : i < bs.length) : bank ⟨bs.set i s, way'⟩ j = if j = i then s else bank ⟨bs, way⟩ j := by
  unfold bank
  simp only [List.getD_eq_getElem?_getD, List.getElem?_set]
  by_cases h : i = j
  · subst h; simp [hi]
  · rw [if_neg h, if_neg (Ne.symm h)]
def nv (vo : List Int) (i : Nat) : Int := vo.getD i 0
theorem nv_set {vo : List Int} {i j : Nat} {x : Int} (hi : i < vo.length) : nv (vo.set i x) j = if j = i then x else nv vo j := by
  unfold nv
  simp only [List.getD_eq_getElem?_getD, List.getElem?_set]
  by_cases h : i = j
  · subst h; simp [hi]
  · rw [if_neg h, if_neg (Ne.symm h)]
theorem hz_true {vo : List Int} : hz vo = true ↔ ∃ i, i < vo.length ∧ nv vo i = 0 := by
  unfold hz nv
  rw [List.any_eq_true]
  constructor
  · rintro ⟨x, hx, he⟩
    obtain ⟨i, hi, rfl⟩ := List.mem_iff_getElem.1 hx
    exact ⟨i, hi, by rw [List.getD_eq_getElem?_getD, List.getElem?_eq_getElem hi]; exact of_decide_eq_true he⟩
  · rintro ⟨i, hi, he⟩
    rw [List.getD_eq_getElem?_getD, List.getElem?_eq_getElem hi] at he
    exact ⟨_, List.getElem_mem hi, decide_eq_true he⟩
theorem hz_false {vo : List Int} : hz vo = false ↔ ∀ i, i < vo.length → nv vo i ≠ 0 := by
  rw [← Bool.not_eq_true, hz_true]
  constructor
  · intro h i hi e; exact h ⟨i, hi, e⟩
  · rintro h ⟨i, hi, e⟩; exact h i hi e
/-- The votes are in order. -/
structure VoOK (n : Nat) (q : Int) (vo : List Int) : Prop where
  len : vo.length = n
  z : nv vo 0 = 1
  b : ∀ i, i < n → nv vo i = 0 ∨ nv vo i = 1
  h : hz vo = true ↔ q < 4
theorem voB_ok {n : Nat} {q : Int} {vo : List Int} (hq : q ≠ 0) : voB q n vo = true ↔ VoOK n q vo := by
  constructor
  · intro h
    obtain ⟨h1, h2, h3, h4⟩ := voB_len h hq
    refine ⟨by omega, h2, fun i hi => ?_, h3⟩
    have := h4 (nv vo i) (by unfold nv; rw [List.getD_eq_getElem?_getD, List.getElem?_eq_getElem (by omega)]; exact List.getElem_mem _)
    omega
  · intro ⟨h1, h2, h3, h4⟩
    unfold voB
    have h5 : ¬ ((vo.length : Int) ≠ n ∨ vo.getD 0 0 ≠ 1 ∨ vo.any (fun v => !inn v 0 1) = true) := by
      rintro (h | h | h)
      · omega
      · exact h h2
      · obtain ⟨x, hx, he⟩ := List.any_eq_true.1 h
        obtain ⟨i, hi, rfl⟩ := List.mem_iff_getElem.1 hx
        have := h3 i (by omega)
        unfold nv at this
        rw [List.getD_eq_getElem?_getD, List.getElem?_eq_getElem hi] at this
        have h6 : inn vo[i] 0 1 = true := inn_iff.2 (by simp at this; omega)
        rw [h6] at he
        cases he
    rw [if_neg hq, if_neg h5]
    have : (vo.any fun v => decide (v = 0)) = decide (q < 4) := by
      have := h4
      unfold hz at this
      by_cases hl : q < 4
      · rw [decide_eq_true hl]; exact this.2 hl
      · rw [decide_eq_false hl]; exact Bool.eq_false_iff.2 fun h => hl (this.1 h)
    rw [this]
    exact beq_self_eq_true _
/-- Messages under way, as far as the phases p of the banks go with them. -/
inductive MOK (n : Nat) (B : List Int) (p : Nat → Int) : MV → Prop
  | prep (i : Nat) : 1 ≤ i → i < n → MOK n B p ⟨0, i, 1, 7, B⟩
  | yes (i : Nat) : 1 ≤ i → i < n → (p 0 = 1 → p i = 1) → MOK n B p ⟨i, 0, 2, 7, [1]⟩
  | no (i : Nat) : 1 ≤ i → i < n → p i = 5 → MOK n B p ⟨i, 0, 2, 7, [0]⟩
  | com (i : Nat) : 1 ≤ i → i < n → (p 0 = 2 ∨ p 0 = 4) → MOK n B p ⟨0, i, 3, 7, [1]⟩
  | abt (i : Nat) : 1 ≤ i → i < n → (p 0 = 3 ∨ p 0 = 5) → MOK n B p ⟨0, i, 3, 7, [0]⟩
  | fin (i : Nat) : 1 ≤ i → i < n → (p i = 4 ∨ p i = 5) → MOK n B p ⟨i, 0, 4, 7, []⟩
/-- How phases may change. -/
structure Mono (n : Nat) (p p' : Nat → Int) : Prop where
  one : p' 0 = 1 → p 0 = 1 ∧ ∀ i, 1 ≤ i → i < n → p i = 1 → p' i = 1
  com : (p 0 = 2 ∨ p 0 = 4) → (p' 0 = 2 ∨ p' 0 = 4)
  abt : (p 0 = 3 ∨ p 0 = 5) → (p' 0 = 3 ∨ p' 0 = 5)
  f4 : ∀ i, 1 ≤ i → i < n → p i = 4 → p' i = 4
  f5 : ∀ i, 1 ≤ i → i < n → p i = 5 → p' i = 5
theorem MOK.mono {n : Nat} {B : List Int} {p p' : Nat → Int} {m : MV} (h : MOK n B p m) (hp : Mono n p p') : MOK n B p' m := by
  cases h with
  | prep i h1 h2 => exact .prep i h1 h2
  | yes i h1 h2 h3 => exact .yes i h1 h2 fun h => (hp.one h).2 i h1 h2 (h3 (hp.one h).1)
  | no i h1 h2 h3 => exact .no i h1 h2 (hp.f5 i h1 h2 h3)
  | com i h1 h2 h3 => exact .com i h1 h2 (hp.com h3)
  | abt i h1 h2 h3 => exact .abt i h1 h2 (hp.abt h3)
  | fin i h1 h2 h3 => exact .fin i h1 h2 (h3.imp (hp.f4 i h1 h2) (hp.f5 i h1 h2))
/-- What holds of banks with the transfers T and the messages under way; ok: all have the same transfers. -/
structure Inv (n : Nat) (T : Nat → List C3) (ok : Bool) (y : YS) : Prop where
  hn : 1 ≤ n ∧ n ≤ 8
  len : y.bs.length = n
  ht : ∀ i, i < n → trB n (T i) = true ∧ (T i).length ≤ 10
  sh : ∀ i, i < n → (bank y i).ro = 7 ∧ (bank y i).bk = i ∧ (bank y i).bn = n ∧ (bank y i).tr = T i
  vo : VoOK n (bank y 0).ph (bank y 0).vo
  pvo : ∀ i, 1 ≤ i → i < n → (bank y i).vo = []
  q0 : 1 ≤ (bank y 0).ph ∧ (bank y 0).ph ≤ 5
  a1 : ∀ i, 1 ≤ i → i < n → (bank y 0).ph = 1 → (bank y i).ph = 0 ∨ (bank y i).ph = 1 ∨ (bank y i).ph = 5
  a2 : ∀ i, 1 ≤ i → i < n → (bank y 0).ph = 2 ∨ (bank y 0).ph = 4 → (bank y i).ph = 1 ∨ (bank y i).ph = 4
  a3 : ∀ i, 1 ≤ i → i < n → (bank y 0).ph = 3 ∨ (bank y 0).ph = 5 → (bank y i).ph = 0 ∨ (bank y i).ph = 1 ∨ (bank y i).ph = 5
  v1 : ∀ i, 1 ≤ i → i < n → nv (bank y 0).vo i = 1 → (bank y 0).ph = 1 → (bank y i).ph = 1
  v2 : ∀ i, 1 ≤ i → i < n → nv (bank y 0).vo i = 1 → (bank y 0).ph ≠ 1 → (bank y i).ph = 4 ∨ (bank y i).ph = 5
  bd : ∀ i, 1 ≤ i → i < n → (bank y i).ph = 1 ∨ (bank y i).ph = 4 → bodyP (T i) = bodyP (T 0)
  sm : ok = true → (∀ i, i < n → T i = T 0) ∧ (bank y 0).ph ≠ 3 ∧ (bank y 0).ph ≠ 5 ∧ ∀ i, 1 ≤ i → i < n → (bank y i).ph ≠ 5
  ms : ∀ m ∈ y.way, MOK n (bodyP (T 0)) (fun i => (bank y i).ph) m
theorem svB_mk {s : SV} (h1 : 0 ≤ s.ro ∧ s.ro ≤ 1073741824) (h2 : 1 ≤ s.bn ∧ s.bn ≤ 8) (h3 : 0 ≤ s.bk ∧ s.bk ≤ s.bn - 1) (h4 : trB s.bn s.tr = true) (h5 : 0 ≤ s.ph ∧ s.ph ≤ 5) (h6 : if s.bk = 0 then voB s.ph s.bn s.vo = true else s.vo.length = 0 ∧ s.ph ≠ 2 ∧ s.ph ≠ 3) : svB s = true := by
  unfold svB
  rw [inn_iff.2 h1, inn_iff.2 h2, inn_iff.2 h3, h4, inn_iff.2 h5]
  simp only [Bool.true_and]
  by_cases h : s.bk = 0
  · rw [if_pos h] at h6 ⊢; exact h6
  · rw [if_neg h] at h6 ⊢; exact decide_eq_true h6
theorem Inv.pr {n : Nat} {T : Nat → List C3} {ok : Bool} {y : YS} (h : Inv n T ok y) {i : Nat} (h1 : 1 ≤ i) (hi : i < n) : (bank y i).ph = 0 ∨ (bank y i).ph = 1 ∨ (bank y i).ph = 4 ∨ (bank y i).ph = 5 := by
  have := h.a1 i h1 hi
  have := h.a2 i h1 hi
  have := h.a3 i h1 hi
  have := h.q0
  omega
theorem Inv.sv {n : Nat} {T : Nat → List C3} {ok : Bool} {y : YS} (h : Inv n T ok y) {i : Nat} (hi : i < n) : svB (bank y i) = true := by
  obtain ⟨h1, h2, h3, h4⟩ := h.sh i hi
  have h0 := h.hn
  have hq := h.q0
  by_cases hz : i = 0
  · subst hz
    refine svB_mk (by omega) (by omega) (by omega) (by rw [h3, h4]; exact (h.ht 0 hi).1) (by omega) ?_
    rw [if_pos (by rw [h2]; rfl), h3]
    exact (voB_ok (by omega)).2 h.vo
  · have hp := h.pr (by omega) hi
    refine svB_mk (by omega) (by omega) (by omega) (by rw [h3, h4]; exact (h.ht i hi).1) (by omega) ?_
    rw [if_neg (by omega), h.pvo i (by omega) hi]
    exact ⟨rfl, by omega, by omega⟩
/-- Messages are taken from the way. -/
theorem Inv.sub {n : Nat} {T : Nat → List C3} {ok : Bool} {y : YS} (h : Inv n T ok y) {l : List MV} (hl : ∀ m ∈ l, m ∈ y.way) : Inv n T ok ⟨y.bs, l⟩ :=
  ⟨h.hn, h.len, h.ht, h.sh, h.vo, h.pvo, h.q0, h.a1, h.a2, h.a3, h.v1, h.v2, h.bd, h.sm, fun m hm => h.ms m (hl m hm)⟩
/-- Messages are sent. -/
theorem Inv.add {n : Nat} {T : Nat → List C3} {ok : Bool} {y : YS} (h : Inv n T ok y) {l : List MV} (hl : ∀ m ∈ l, MOK n (bodyP (T 0)) (fun i => (bank y i).ph) m) : Inv n T ok ⟨y.bs, y.way ++ l⟩ :=
  ⟨h.hn, h.len, h.ht, h.sh, h.vo, h.pvo, h.q0, h.a1, h.a2, h.a3, h.v1, h.v2, h.bd, h.sm, fun m hm => (List.mem_append.1 hm).elim (h.ms m) (hl m)⟩
/-- A participant changes its phase. -/
theorem Inv.part {n : Nat} {T : Nat → List C3} {ok : Bool} {y : YS} (h : Inv n T ok y) {i : Nat} (h1 : 1 ≤ i) (hi : i < n) {q : Int}
    (c1 : (bank y 0).ph = 1 → (q = 0 ∨ q = 1 ∨ q = 5) ∧ ((bank y i).ph = 1 → q = 1)) (c2 : (bank y 0).ph = 2 ∨ (bank y 0).ph = 4 → q = 1 ∨ q = 4) (c3 : (bank y 0).ph = 3 ∨ (bank y 0).ph = 5 → q = 0 ∨ q = 1 ∨ q = 5)
    (c4 : (bank y i).ph = 4 ∨ (bank y i).ph = 5 → q = (bank y i).ph) (c5 : q = 1 ∨ q = 4 → bodyP (T i) = bodyP (T 0)) (c6 : ok = true → q ≠ 5) :
    Inv n T ok ⟨y.bs.set i ⟨(bank y i).ro, q, (bank y i).bk, (bank y i).bn, (bank y i).tr, (bank y i).vo⟩, y.way⟩ := by
  have hb : ∀ j, bank ⟨y.bs.set i ⟨(bank y i).ro, q, (bank y i).bk, (bank y i).bn, (bank y i).tr, (bank y i).vo⟩, y.way⟩ j = if j = i then ⟨(bank y i).ro, q, (bank y i).bk, (bank y i).bn, (bank y i).tr, (bank y i).vo⟩ else bank y j := fun j => bank_set (way := y.way) (by rw [h.len]; exact hi)
  have h0 : ∀ s : SV, (if (0 : Nat) = i then s else bank y 0) = bank y 0 := fun s => if_neg (by omega)
  have hph : ∀ j, (if j = i then (⟨(bank y i).ro, q, (bank y i).bk, (bank y i).bn, (bank y i).tr, (bank y i).vo⟩ : SV) else bank y j).ph = if j = i then q else (bank y j).ph := fun j => by split <;> rfl
  have hp : Mono n (fun j => (bank y j).ph) (fun j => if j = i then q else (bank y j).ph) := by
    refine ⟨fun e => ?_, fun e => ?_, fun e => ?_, fun j hj1 hj2 e => ?_, fun j hj1 hj2 e => ?_⟩
    · (try dsimp only at e ⊢)
      rw [if_neg (by omega)] at e
      refine ⟨e, fun j _ _ hj => ?_⟩
      split
      · rename_i e2; subst e2; exact (c1 e).2 hj
      · exact hj
    · (try dsimp only at e ⊢); rw [if_neg (by omega)]; exact e
    · (try dsimp only at e ⊢); rw [if_neg (by omega)]; exact e
    · (try dsimp only at e ⊢)
      split
      · rename_i e2; subst e2; rw [c4 (.inl e)]; exact e
      · exact e
    · (try dsimp only at e ⊢)
      split
      · rename_i e2; subst e2; rw [c4 (.inr e)]; exact e
      · exact e
  refine ⟨h.hn, by rw [List.length_set]; exact h.len, h.ht, fun j hj => ?_, ?_, fun j h1' hj' => ?_, ?_, fun j h1' hj' => ?_, fun j h1' hj' => ?_, fun j h1' hj' => ?_, fun j h1' hj' => ?_, fun j h1' hj' => ?_, fun j h1' hj' => ?_, fun e => ?_, fun m hm => ?_⟩
  · rw [hb j]; split
    · rename_i e; subst e; exact h.sh j hj
    · exact h.sh j hj
  · rw [hb 0, h0]; exact h.vo
  · rw [hb j]; split
    · rename_i e; subst e; exact h.pvo j h1' hj'
    · exact h.pvo j h1' hj'
  · rw [hb 0, h0]; exact h.q0
  · rw [hb 0, h0, hb j, hph]; split
    · intro e; exact (c1 e).1
    · exact h.a1 j h1' hj'
  · rw [hb 0, h0, hb j, hph]; split
    · exact c2
    · exact h.a2 j h1' hj'
  · rw [hb 0, h0, hb j, hph]; split
    · exact c3
    · exact h.a3 j h1' hj'
  · rw [hb 0, h0, hb j, hph]; split
    · rename_i e; subst e; exact fun e1 e2 => (c1 e2).2 (h.v1 j h1' hj' e1 e2)
    · exact h.v1 j h1' hj'
  · rw [hb 0, h0, hb j, hph]; split
    · rename_i e; subst e; intro e1 e2; have := h.v2 j h1' hj' e1 e2; rw [c4 this]; exact this
    · exact h.v2 j h1' hj'
  · rw [hb j, hph]; split
    · rename_i e; subst e; exact c5
    · exact h.bd j h1' hj'
  · obtain ⟨e1, e2, e3, e4⟩ := h.sm e
    refine ⟨e1, by rw [hb 0, h0]; exact e2, by rw [hb 0, h0]; exact e3, fun j h1' hj' => ?_⟩
    rw [hb j, hph]; split
    · exact c6 e
    · exact e4 j h1' hj'
  · have := (h.ms m hm).mono hp
    refine (show MOK n (bodyP (T 0)) (fun j => (bank ⟨y.bs.set i ⟨(bank y i).ro, q, (bank y i).bk, (bank y i).bn, (bank y i).tr, (bank y i).vo⟩, y.way⟩ j).ph) m from ?_)
    have e : (fun j => (bank ⟨y.bs.set i ⟨(bank y i).ro, q, (bank y i).bk, (bank y i).bn, (bank y i).tr, (bank y i).vo⟩, y.way⟩ j).ph) = (fun j => if j = i then q else (bank y j).ph) := by
      funext j; rw [hb j, hph]
    rw [e]; exact this
/-- The coordinator changes its phase and votes. -/
theorem Inv.coord {n : Nat} {T : Nat → List C3} {ok : Bool} {y : YS} (h : Inv n T ok y) {q : Int} {vo : List Int}
    (c0 : VoOK n q vo) (c1 : q = (bank y 0).ph ∨ (bank y 0).ph = 1 ∧ (q = 2 ∨ q = 3) ∨ (bank y 0).ph = 2 ∧ q = 4 ∨ (bank y 0).ph = 3 ∧ q = 5)
    (c2 : (bank y 0).ph = 1 → q = 2 → ∀ i, 1 ≤ i → i < n → (bank y i).ph = 1) (c3 : ok = true → q ≠ 3)
    (c4 : ∀ i, 1 ≤ i → i < n → nv vo i = 1 → q = 1 → (bank y i).ph = 1) (c5 : ∀ i, 1 ≤ i → i < n → nv vo i = 1 → q ≠ 1 → (bank y i).ph = 4 ∨ (bank y i).ph = 5) :
    Inv n T ok ⟨y.bs.set 0 ⟨(bank y 0).ro, q, (bank y 0).bk, (bank y 0).bn, (bank y 0).tr, vo⟩, y.way⟩ := by
  have hn := h.hn
  have hq := h.q0
  have hb : ∀ j, bank ⟨y.bs.set 0 ⟨(bank y 0).ro, q, (bank y 0).bk, (bank y 0).bn, (bank y 0).tr, vo⟩, y.way⟩ j = if j = 0 then ⟨(bank y 0).ro, q, (bank y 0).bk, (bank y 0).bn, (bank y 0).tr, vo⟩ else bank y j := fun j => bank_set (way := y.way) (by rw [h.len]; omega)
  have h0 : bank ⟨y.bs.set 0 ⟨(bank y 0).ro, q, (bank y 0).bk, (bank y 0).bn, (bank y 0).tr, vo⟩, y.way⟩ 0 = ⟨(bank y 0).ro, q, (bank y 0).bk, (bank y 0).bn, (bank y 0).tr, vo⟩ := by rw [hb 0, if_pos rfl]
  have hj : ∀ j, 1 ≤ j → bank ⟨y.bs.set 0 ⟨(bank y 0).ro, q, (bank y 0).bk, (bank y 0).bn, (bank y 0).tr, vo⟩, y.way⟩ j = bank y j := fun j h1 => by rw [hb j, if_neg (by omega)]
  have hp : Mono n (fun j => (bank y j).ph) (fun j => (bank ⟨y.bs.set 0 ⟨(bank y 0).ro, q, (bank y 0).bk, (bank y 0).bn, (bank y 0).tr, vo⟩, y.way⟩ j).ph) := by
    refine ⟨fun e => ?_, fun e => ?_, fun e => ?_, fun j hj1 hj2 e => ?_, fun j hj1 hj2 e => ?_⟩
    · (try dsimp only at e ⊢)
      rw [h0] at e
      dsimp only at e
      refine ⟨by omega, fun j h1 _ e2 => by rw [hj j h1]; exact e2⟩
    · (try dsimp only at e ⊢); rw [h0]; dsimp only; omega
    · (try dsimp only at e ⊢); rw [h0]; dsimp only; omega
    · (try dsimp only at e ⊢); rw [hj j hj1]; exact e
    · (try dsimp only at e ⊢); rw [hj j hj1]; exact e
  refine ⟨h.hn, by rw [List.length_set]; exact h.len, h.ht, fun j hj => ?_, ?_, fun j h1' hj' => ?_, ?_, fun j h1' hj' => ?_, fun j h1' hj' => ?_, fun j h1' hj' => ?_, fun j h1' hj' => ?_, fun j h1' hj' => ?_, fun j h1' hj' => ?_, fun e => ?_, fun m hm => (h.ms m hm).mono hp⟩
  · rw [hb j]; split
    · rename_i e; subst e; exact h.sh 0 hj
    · exact h.sh j hj
  · rw [h0]; exact c0
  · rw [hj j h1']; exact h.pvo j h1' hj'
  · rw [h0]; dsimp only; omega
  · rw [h0, hj j h1']; dsimp only; intro e; exact h.a1 j h1' hj' (by omega)
  · rw [h0, hj j h1']; dsimp only; intro e
    have := h.a2 j h1' hj'
    by_cases e1 : (bank y 0).ph = 1
    · exact .inl (c2 e1 (by omega) j h1' hj')
    · exact this (by omega)
  · rw [h0, hj j h1']; dsimp only; intro e
    have := h.a1 j h1' hj'
    have := h.a3 j h1' hj'
    omega
  · rw [h0, hj j h1']; exact c4 j h1' hj'
  · rw [h0, hj j h1']; exact c5 j h1' hj'
  · rw [hj j h1']; exact h.bd j h1' hj'
  · obtain ⟨e1, e2, e3, e4⟩ := h.sm e
    have := c3 e
    refine ⟨e1, by rw [h0]; dsimp only; omega, by rw [h0]; dsimp only; omega, fun j h1' hj' => ?_⟩
    rw [hj j h1']; exact e4 j h1' hj'
end Go.Proofs.Ytagmoecojmlogaa
namespace Go.Proofs.Ytagmoecojmlogaa
set_option maxRecDepth 20000
set_option linter.unusedSimpArgs false
set_option linter.unusedVariables false
open Go Go.Fw
theorem missF_mem {fr ro ki : Int} {bo : List Int} : ∀ {l : List Int} {i : Nat} {m : MV}, m ∈ missF fr ro ki bo i l ↔ ∃ j, j < l.length ∧ nv l j = 0 ∧ m = ⟨fr, ((i + j : Nat) : Int), ki, ro, bo⟩
  | [], i, m => by unfold missF; simp
  | v :: l, i, m => by
    have ih := @missF_mem fr ro ki bo l (i + 1) m
    have key : (∃ j, j < (v :: l).length ∧ nv (v :: l) j = 0 ∧ m = ⟨fr, ((i + j : Nat) : Int), ki, ro, bo⟩) ↔ (v = 0 ∧ m = ⟨fr, ((i : Nat) : Int), ki, ro, bo⟩) ∨ ∃ j, j < l.length ∧ nv l j = 0 ∧ m = ⟨fr, ((i + 1 + j : Nat) : Int), ki, ro, bo⟩ := by
      constructor
      · rintro ⟨j, h1, h2, h3⟩
        cases j with
        | zero => exact .inl ⟨h2, h3⟩
        | succ j => exact .inr ⟨j, by simpa using h1, h2, by rw [h3, show i + (j + 1) = i + 1 + j by omega]⟩
      · rintro (⟨h2, h3⟩ | ⟨j, h1, h2, h3⟩)
        · exact ⟨0, by simp, h2, h3⟩
        · exact ⟨j + 1, by simpa using h1, h2, by rw [h3, show i + (j + 1) = i + 1 + j by omega]⟩
    rw [key, ← ih]
    rw [missF]
    by_cases hv : v = 0
    · rw [if_pos hv, List.mem_cons]
      exact ⟨fun h => h.imp (fun h => ⟨hv, h⟩) id, fun h => h.imp (fun h => h.2) id⟩
    · rw [if_neg hv]
      exact ⟨fun h => .inr h, fun h => h.elim (fun h => absurd h.1 hv) id⟩
/-- The work that a message may cause. -/
def wt (m : MV) : Nat := (5 - m.ki).toNat
def wts (l : List MV) : Nat := (l.map wt).sum
theorem wts_app (a b : List MV) : wts (a ++ b) = wts a + wts b := by unfold wts; rw [List.map_append, List.sum_append]
theorem wts_cons (a : MV) (b : List MV) : wts (a :: b) = wt a + wts b := rfl
theorem wts_nil : wts [] = 0 := rfl
theorem wts_le {k : Nat} : ∀ {l : List MV}, (∀ m ∈ l, wt m ≤ k) → wts l ≤ k * l.length
  | [], _ => by simp [wts_nil]
  | m :: l, h => by
    have h1 := h m (List.mem_cons_self ..)
    have h2 := wts_le (l := l) fun m hm => h m (List.mem_cons_of_mem _ hm)
    rw [wts_cons, List.length_cons, Nat.mul_add, Nat.mul_one]
    omega
theorem MOK.wt {n : Nat} {B : List Int} {p : Nat → Int} {m : MV} (h : MOK n B p m) : wt m ≤ 4 := by
  cases h <;> (unfold Go.Proofs.Ytagmoecojmlogaa.wt; (try dsimp only); decide)
theorem noneV_ok {n : Nat} (hn : 2 ≤ n) {q : Int} (hq : q < 4) : VoOK n q (noneV n) := by
  have hl := noneV_len (n := n) (by omega)
  have hp : ∀ i, 1 ≤ i → i < n → nv (noneV n) i = 0 := fun i h1 hi => by
    have := noneV_pos hi (by omega)
    unfold nv
    rw [List.getD_eq_getElem?_getD, this]
    rfl
  have h0 : nv (noneV n) 0 = 1 := rfl
  refine ⟨hl, h0, fun i hi => ?_, fun _ => hq, fun _ => ?_⟩
  · by_cases h : i = 0
    · subst h; exact .inr h0
    · exact .inl (hp i (by omega) hi)
  · exact hz_true.2 ⟨1, by omega, hp 1 (Nat.le_refl _) (by omega)⟩
theorem noneV_one {n : Nat} (hn : 1 ≤ n) {i : Nat} (hi : i < n) (h : nv (noneV n) i = 1) : i = 0 := by
  by_cases h0 : i = 0
  · exact h0
  · have := noneV_pos hi h0
    unfold nv at h
    rw [List.getD_eq_getElem?_getD, this] at h
    cases h
theorem bitM_01 {b : Int} (h : b = 0 ∨ b = 1) : bitM [b] = b := by
  rcases h with rfl | rfl <;> rfl
/-- The prepares, votes, decisions and dones that are under way reach all that are missing. -/
def Jn (n : Nat) (y : YS) : Prop := ∀ i, 1 ≤ i → i < n → nv (bank y 0).vo i = 0 →
  ((bank y 0).ph = 1 → ∃ m ∈ y.way, (m.ki = 1 ∧ m.to = i) ∨ (m.ki = 2 ∧ m.fr = i)) ∧
  ((bank y 0).ph = 2 ∨ (bank y 0).ph = 3 → ∃ m ∈ y.way, (m.ki = 3 ∧ m.to = i) ∨ (m.ki = 4 ∧ m.fr = i))
/-- Nobody changes a decision. -/
def Keeps (n : Nat) (y y' : YS) : Prop := ∀ i, i < n → (dcP (bank y i)).1 = true → dcP (bank y' i) = dcP (bank y i)
theorem mvB_mk {m : MV} (h1 : 0 ≤ m.fr ∧ m.fr ≤ 1000) (h2 : 0 ≤ m.to ∧ m.to ≤ 1000) (h3 : 0 ≤ m.ki ∧ m.ki ≤ 1000) (h4 : m.nu = 7) (h5 : m.bo.length ≤ 16384) : mvB m = true := by
  unfold mvB
  rw [inn_iff.2 h1, inn_iff.2 h2, inn_iff.2 h3, inn_iff.2 (by omega), decide_eq_true h5]
  rfl
theorem Inv.mv {n : Nat} {T : Nat → List C3} {ok : Bool} {y : YS} (h : Inv n T ok y) {m : MV} {p : Nat → Int} (hm : MOK n (bodyP (T 0)) p m) : mvB m = true ∧ m.nu = 7 ∧ ∃ i : Nat, i < n ∧ m.to = i := by
  have hn := h.hn
  have hb := bodyP_length (T 0)
  have ht := (h.ht 0 (by omega)).2
  cases hm with
  | prep i h1 h2 => exact ⟨mvB_mk (by simp) (by dsimp only; omega) (by simp) rfl (by dsimp only; omega), rfl, i, h2, rfl⟩
  | yes i h1 h2 _ => exact ⟨mvB_mk (by dsimp only; omega) (by simp) (by simp) rfl (by simp), rfl, 0, by omega, rfl⟩
  | no i h1 h2 _ => exact ⟨mvB_mk (by dsimp only; omega) (by simp) (by simp) rfl (by simp), rfl, 0, by omega, rfl⟩
  | com i h1 h2 _ => exact ⟨mvB_mk (by simp) (by dsimp only; omega) (by simp) rfl (by simp), rfl, i, h2, rfl⟩
  | abt i h1 h2 _ => exact ⟨mvB_mk (by simp) (by dsimp only; omega) (by simp) rfl (by simp), rfl, i, h2, rfl⟩
  | fin i h1 h2 _ => exact ⟨mvB_mk (by dsimp only; omega) (by simp) (by simp) rfl (by simp), rfl, 0, by omega, rfl⟩
theorem recvP_ok {s : SV} {m : MV} (h1 : svB s = true) (h2 : mvB m = true) (h3 : m.to = s.bk) (h4 : m.nu = s.ro) : recvP s m = if s.bk = 0 then ((coordP s m).1, (coordP s m).2, 0) else ((partP s m).1, (partP s m).2, 0) := by
  unfold recvP
  rw [if_pos ⟨h1, h2⟩, if_pos ⟨h3, h4⟩]
/-- A participant with the phase q. -/
abbrev atP (s : SV) (q : Int) : SV := ⟨s.ro, q, s.bk, s.bn, s.tr, s.vo⟩
theorem dlv_part {n : Nat} {T : Nat → List C3} {ok : Bool} {y : YS} (h : Inv n T ok y) {m : MV} (hm : MOK n (bodyP (T 0)) (fun i => (bank y i).ph) m) {i : Nat} (h1 : 1 ≤ i) (hi : i < n) (hto : m.to = i) :
    ∃ q l, recvP (bank y i) m = (atP (bank y i) q, l, 0) ∧ ((bank y 0).ph = 1 → (q = 0 ∨ q = 1 ∨ q = 5) ∧ ((bank y i).ph = 1 → q = 1)) ∧ ((bank y 0).ph = 2 ∨ (bank y 0).ph = 4 → q = 1 ∨ q = 4) ∧
      ((bank y 0).ph = 3 ∨ (bank y 0).ph = 5 → q = 0 ∨ q = 1 ∨ q = 5) ∧ ((bank y i).ph = 4 ∨ (bank y i).ph = 5 → q = (bank y i).ph) ∧ (q = 1 ∨ q = 4 → bodyP (T i) = bodyP (T 0)) ∧ (ok = true → q ≠ 5) ∧
      (∀ p : Nat → Int, p 0 = (bank y 0).ph → p i = q → ∀ m' ∈ l, MOK n (bodyP (T 0)) p m') ∧ l.length ≤ 1 ∧ wts l < wt m ∧
      (m.ki = 1 → (bank y 0).ph = 1 → ∃ m' ∈ l, m'.ki = 2 ∧ m'.fr = i) ∧ (m.ki = 3 → ∃ m' ∈ l, m'.ki = 4 ∧ m'.fr = i) := by
  obtain ⟨s1, s2, s3, s4⟩ := h.sh i hi
  obtain ⟨m1, m2, _⟩ := h.mv hm
  have hr := recvP_ok (h.sv hi) m1 (by rw [hto, s2]) (by rw [m2, s1])
  rw [if_neg (by omega)] at hr
  have hpr := h.pr h1 hi
  have ha1 := h.a1 i h1 hi
  have ha2 := h.a2 i h1 hi
  have ha3 := h.a3 i h1 hi
  have hbd := h.bd i h1 hi
  have hq := h.q0
  have hsm := h.sm
  generalize hs : bank y i = s at *
  obtain ⟨ro, ph, bk, bn, tr, vo⟩ := s
  dsimp only at *
  subst s1 s2 s3 s4
  generalize hp0 : (bank y 0).ph = p0 at *
  rw [hr]
  have yes : ∀ b : Int, b = 1 → p0 ≠ 1 ∨ True → ∀ p : Nat → Int, p 0 = p0 → p i = 1 → ∀ m' ∈ [(⟨i, 0, 2, 7, [b]⟩ : MV)], MOK n (bodyP (T 0)) p m' := by
    intro b hb _ p _ hpi m' hm'
    rw [List.mem_singleton.1 hm', hb]
    exact .yes i h1 hi fun _ => hpi
  have no : ∀ b : Int, b = 0 → ∀ p : Nat → Int, p 0 = p0 → p i = 5 → ∀ m' ∈ [(⟨i, 0, 2, 7, [b]⟩ : MV)], MOK n (bodyP (T 0)) p m' := by
    intro b hb p _ hpi m' hm'
    rw [List.mem_singleton.1 hm', hb]
    exact .no i h1 hi hpi
  have fin : ∀ q : Int, q = 4 ∨ q = 5 → ∀ p : Nat → Int, p 0 = p0 → p i = q → ∀ m' ∈ [(⟨i, 0, 4, 7, []⟩ : MV)], MOK n (bodyP (T 0)) p m' := by
    intro q hq p _ hpi m' hm'
    rw [List.mem_singleton.1 hm']
    exact .fin i h1 hi (by rw [hpi]; exact hq)
  cases hm with
  | yes j _ _ _ => exact absurd hto (by dsimp only; omega)
  | no j _ _ _ => exact absurd hto (by dsimp only; omega)
  | fin j _ _ _ => exact absurd hto (by dsimp only; omega)
  | prep j _ _ =>
    unfold partP
    dsimp only
    rw [if_neg (by simp), if_pos rfl]
    by_cases h0 : ph = 0
    · rw [if_pos h0]
      by_cases hb : bodyP (T 0) = bodyP (T i)
      · rw [if_pos hb]
        refine ⟨1, _, rfl, by omega, by omega, by omega, by omega, fun _ => hb.symm, by omega, yes 1 rfl (.inr trivial), by simp, by simp [wts_nil, wts_cons, wt], fun _ _ => ⟨_, List.mem_singleton.2 rfl, rfl, rfl⟩, by simp⟩
      · rw [if_neg hb]
        refine ⟨5, _, rfl, by omega, by omega, by omega, by omega, by omega, fun e => ?_, no 0 rfl, by simp, by simp [wts_nil, wts_cons, wt], fun _ _ => ⟨_, List.mem_singleton.2 rfl, rfl, rfl⟩, by simp⟩
        exact absurd (by rw [(hsm e).1 i hi]) hb
    · rw [if_neg h0]
      by_cases h4 : ph = 4
      · rw [if_pos h4]
        refine ⟨4, [], by rw [h4], by omega, by omega, by omega, by omega, fun _ => hbd (.inr h4), by omega, fun _ _ _ _ h => (by cases h), by simp, by simp [wts_nil, wt], by omega, by simp⟩
      · rw [if_neg h4]
        by_cases h5 : ph = 1
        · refine ⟨1, [⟨i, 0, 2, 7, [1]⟩], by rw [if_pos h5, h5], by omega, by omega, by omega, by omega, fun _ => hbd (.inl h5), by omega, yes 1 rfl (.inr trivial), by simp, by simp [wts_nil, wts_cons, wt], fun _ _ => ⟨_, List.mem_singleton.2 rfl, rfl, rfl⟩, by simp⟩
        · have h6 : ph = 5 := by omega
          refine ⟨5, [⟨i, 0, 2, 7, [0]⟩], by rw [if_neg h5, h6], by omega, by omega, by omega, by omega, by omega, fun e => ?_, no 0 rfl, by simp, by simp [wts_nil, wts_cons, wt], fun _ _ => ⟨_, List.mem_singleton.2 rfl, rfl, rfl⟩, by simp⟩
          have := (hsm e).2.2.2 i h1 hi
          rw [hs] at this
          exact absurd h6 this
  | com j _ _ hc =>
    unfold partP
    dsimp only
    rw [if_neg (by simp), if_neg (by simp), bitM_01 (.inr rfl), if_pos (by simp), if_neg (by simp)]
    have := ha2 (by rw [← hp0]; exact hc)
    rw [if_pos (by omega)]
    refine ⟨4, _, rfl, by omega, by omega, by omega, by omega, fun _ => hbd (by omega), by omega, fin 4 (.inl rfl), by simp, by simp [wts_nil, wts_cons, wt], by simp, fun _ => ⟨_, List.mem_singleton.2 rfl, rfl, rfl⟩⟩
  | abt j _ _ hc =>
    unfold partP
    dsimp only
    rw [if_neg (by simp), if_neg (by simp), bitM_01 (.inl rfl), if_pos (by simp), if_pos rfl]
    have := ha3 (by rw [← hp0]; exact hc)
    rw [if_pos (by omega)]
    refine ⟨5, _, rfl, by omega, by omega, by omega, by omega, by omega, fun e => ?_, fin 5 (.inr rfl), by simp, by simp [wts_nil, wts_cons, wt], by simp, fun _ => ⟨_, List.mem_singleton.2 rfl, rfl, rfl⟩⟩
    have := (hsm e).2
    omega
end Go.Proofs.Ytagmoecojmlogaa
namespace Go.Proofs.Ytagmoecojmlogaa
set_option maxRecDepth 20000
set_option linter.unusedSimpArgs false
set_option linter.unusedVariables false
open Go Go.Fw
def pot (q : Int) : Nat := if q = 1 then 16 else 0
abbrev atC (s : SV) (q : Int) (vo : List Int) : SV := ⟨s.ro, q, s.bk, s.bn, s.tr, vo⟩
theorem VoOK.set {n : Nat} {q q' : Int} {vo : List Int} (h : VoOK n q vo) {j : Nat} (h1 : 1 ≤ j) (hj : j < n) (hz' : hz (vo.set j 1) = true ↔ q' < 4) : VoOK n q' (vo.set j 1) := by
  have hl := h.len
  refine ⟨by rw [List.length_set]; exact hl, ?_, fun i hi => ?_, hz'⟩
  · rw [nv_set (by omega), if_neg (by omega)]; exact h.z
  · rw [nv_set (by omega)]; split
    · exact .inr rfl
    · exact h.b i hi
theorem dec_ok {n : Nat} {B : List Int} {q : Int} {p : Nat → Int} (hp : p 0 = q) (hq : q = 2 ∨ q = 3 ∨ q = 4 ∨ q = 5) {i : Nat} (h1 : 1 ≤ i) (hi : i < n) : MOK n B p ⟨0, i, 3, 7, [flB (cmB q)]⟩ := by
  unfold cmB flB
  by_cases h : q = 2 ∨ q = 4
  · rw [decide_eq_true h, if_pos rfl]; exact .com i h1 hi (by omega)
  · rw [decide_eq_false h, if_neg (by simp)]; exact .abt i h1 hi (by omega)
theorem dlv_coord {n : Nat} {T : Nat → List C3} {ok : Bool} {y : YS} (h : Inv n T ok y) {m : MV} (hm : MOK n (bodyP (T 0)) (fun i => (bank y i).ph) m) (hto : m.to = 0) :
    ∃ q vo l, recvP (bank y 0) m = (atC (bank y 0) q vo, l, 0) ∧ VoOK n q vo ∧ (q = (bank y 0).ph ∨ (bank y 0).ph = 1 ∧ (q = 2 ∨ q = 3) ∨ (bank y 0).ph = 2 ∧ q = 4 ∨ (bank y 0).ph = 3 ∧ q = 5) ∧
      ((bank y 0).ph = 1 → q = 2 → ∀ i, 1 ≤ i → i < n → (bank y i).ph = 1) ∧ (ok = true → q ≠ 3) ∧
      (∀ i, 1 ≤ i → i < n → nv vo i = 1 → q = 1 → (bank y i).ph = 1) ∧ (∀ i, 1 ≤ i → i < n → nv vo i = 1 → q ≠ 1 → (bank y i).ph = 4 ∨ (bank y i).ph = 5) ∧
      (∀ p : Nat → Int, p 0 = q → ∀ m' ∈ l, MOK n (bodyP (T 0)) p m') ∧ l.length ≤ n ∧ wts l + pot q < wt m + pot (bank y 0).ph ∧
      (∀ i, 1 ≤ i → i < n → nv vo i = 0 → (q = 1 → (bank y 0).ph = 1 ∧ nv (bank y 0).vo i = 0 ∧ ¬ (m.ki = 2 ∧ m.fr = i)) ∧ (q = 2 ∨ q = 3 → (∃ m' ∈ l, m'.ki = 3 ∧ m'.to = i) ∨ ((bank y 0).ph = q ∧ nv (bank y 0).vo i = 0 ∧ ¬ (m.ki = 4 ∧ m.fr = i)))) := by
  have h0 : 0 < n := by have := h.hn; omega
  obtain ⟨s1, s2, s3, s4⟩ := h.sh 0 h0
  obtain ⟨m1, m2, _⟩ := h.mv hm
  have hr := recvP_ok (h.sv h0) m1 (by rw [hto, s2]; rfl) (by rw [m2, s1])
  rw [if_pos (by rw [s2]; rfl)] at hr
  have hq := h.q0
  have hsm := h.sm
  have hvo := h.vo
  have hv1 := h.v1
  have hv2 := h.v2
  have hki : m.to = 0 → (∃ j : Nat, 1 ≤ j ∧ j < n ∧ ((m = ⟨j, 0, 2, 7, [1]⟩ ∧ ((bank y 0).ph = 1 → (bank y j).ph = 1)) ∨ (m = ⟨j, 0, 2, 7, [0]⟩ ∧ (bank y j).ph = 5) ∨ (m = ⟨j, 0, 4, 7, []⟩ ∧ ((bank y j).ph = 4 ∨ (bank y j).ph = 5)))) := by
    intro hto
    cases hm with
    | prep j h1 _ => exact absurd hto (by dsimp only; omega)
    | com j h1 _ _ => exact absurd hto (by dsimp only; omega)
    | abt j h1 _ _ => exact absurd hto (by dsimp only; omega)
    | yes j h1 h2 h3 => exact ⟨j, h1, h2, .inl ⟨rfl, h3⟩⟩
    | no j h1 h2 h3 => exact ⟨j, h1, h2, .inr (.inl ⟨rfl, h3⟩)⟩
    | fin j h1 h2 h3 => exact ⟨j, h1, h2, .inr (.inr ⟨rfl, h3⟩)⟩
  obtain ⟨j, hj1, hj2, hc⟩ := hki hto
  clear hki
  generalize hs : bank y 0 = s at *
  obtain ⟨ro, ph, bk, bn, tr, vo⟩ := s
  dsimp only at *
  subst s1 s2 s3 s4
  rw [hr]
  have hvl := hvo.len
  have hcond : (1 ≤ (j : Int) ∧ (j : Int) ≤ (n : Int) - 1) ∧ ph ≠ 0 := by omega
  have vote : ∀ b : Int, b = 0 ∨ b = 1 → m = ⟨j, 0, 2, 7, [b]⟩ → ph ≠ 1 → ∃ q vo' l, coordP ⟨7, ph, ((0 : Nat) : Int), n, T 0, vo⟩ m = (⟨7, q, ((0 : Nat) : Int), n, T 0, vo'⟩, l) ∧ q = ph ∧ vo' = vo ∧ l = [⟨0, j, 3, 7, [flB (cmB ph)]⟩] := by
    intro b hb he hp
    refine ⟨ph, vo, _, ?_, rfl, rfl, rfl⟩
    rw [he]
    unfold coordP
    dsimp only
    rw [if_pos hcond, if_pos rfl, bitM_01 hb, if_neg (by omega), if_pos hp]
    rfl
  have same : ∀ q vo' l, q = ph → vo' = vo → l = [(⟨0, j, 3, 7, [flB (cmB ph)]⟩ : MV)] → m.ki = 2 → ph ≠ 1 → VoOK n q vo' ∧ (q = ph ∨ ph = 1 ∧ (q = 2 ∨ q = 3) ∨ ph = 2 ∧ q = 4 ∨ ph = 3 ∧ q = 5) ∧
      (ph = 1 → q = 2 → ∀ i, 1 ≤ i → i < n → (bank y i).ph = 1) ∧ (ok = true → q ≠ 3) ∧
      (∀ i, 1 ≤ i → i < n → nv vo' i = 1 → q = 1 → (bank y i).ph = 1) ∧ (∀ i, 1 ≤ i → i < n → nv vo' i = 1 → q ≠ 1 → (bank y i).ph = 4 ∨ (bank y i).ph = 5) ∧
      (∀ p : Nat → Int, p 0 = q → ∀ m' ∈ l, MOK n (bodyP (T 0)) p m') ∧ l.length ≤ n ∧ wts l + pot q < wt m + pot ph ∧
      (∀ i, 1 ≤ i → i < n → nv vo' i = 0 → (q = 1 → ph = 1 ∧ nv vo i = 0 ∧ ¬ (m.ki = 2 ∧ m.fr = i)) ∧ (q = 2 ∨ q = 3 → (∃ m' ∈ l, m'.ki = 3 ∧ m'.to = i) ∨ (ph = q ∧ nv vo i = 0 ∧ ¬ (m.ki = 4 ∧ m.fr = i)))) := by
    intro q vo' l e1 e2 e3 hk hp
    subst e1 e2 e3
    refine ⟨hvo, .inl rfl, fun e => absurd e hp, fun e => (hsm e).2.1, fun i h1 hi e1 e2 => absurd e2 hp, fun i h1 hi e1 e2 => hv2 i h1 hi e1 e2, fun p hp2 m' hm' => ?_, by simp; omega, ?_, fun i h1 hi e => ⟨fun e2 => absurd e2 hp, fun e2 => .inr ⟨rfl, e, by omega⟩⟩⟩
    · rw [List.mem_singleton.1 hm']; exact dec_ok hp2 (by omega) hj1 hj2
    · simp only [wts_cons, wts_nil, wt, hk]; omega
  have start : ∀ q, q = 2 ∨ q = 3 → ph = 1 → (q = 2 → ∀ i, 1 ≤ i → i < n → (bank y i).ph = 1) → (ok = true → q ≠ 3) → m.ki = 2 → VoOK n q (noneV vo.length) ∧ (q = ph ∨ ph = 1 ∧ (q = 2 ∨ q = 3) ∨ ph = 2 ∧ q = 4 ∨ ph = 3 ∧ q = 5) ∧
      (ph = 1 → q = 2 → ∀ i, 1 ≤ i → i < n → (bank y i).ph = 1) ∧ (ok = true → q ≠ 3) ∧
      (∀ i, 1 ≤ i → i < n → nv (noneV vo.length) i = 1 → q = 1 → (bank y i).ph = 1) ∧ (∀ i, 1 ≤ i → i < n → nv (noneV vo.length) i = 1 → q ≠ 1 → (bank y i).ph = 4 ∨ (bank y i).ph = 5) ∧
      (∀ p : Nat → Int, p 0 = q → ∀ m' ∈ missF ((0 : Nat) : Int) 7 3 [flB (cmB q)] 0 (noneV vo.length), MOK n (bodyP (T 0)) p m') ∧ (missF ((0 : Nat) : Int) 7 3 [flB (cmB q)] 0 (noneV vo.length)).length ≤ n ∧ wts (missF ((0 : Nat) : Int) 7 3 [flB (cmB q)] 0 (noneV vo.length)) + pot q < wt m + pot ph ∧
      (∀ i, 1 ≤ i → i < n → nv (noneV vo.length) i = 0 → (q = 1 → ph = 1 ∧ nv vo i = 0 ∧ ¬ (m.ki = 2 ∧ m.fr = i)) ∧ (q = 2 ∨ q = 3 → (∃ m' ∈ missF ((0 : Nat) : Int) 7 3 [flB (cmB q)] 0 (noneV vo.length), m'.ki = 3 ∧ m'.to = i) ∨ (ph = q ∧ nv vo i = 0 ∧ ¬ (m.ki = 4 ∧ m.fr = i)))) := by
    intro q hq2 hp1 hc2 hc3 hk
    rw [hvl]
    have hnl : (noneV (n : Int)).length = n := noneV_len h0
    have hml := missF_length 0 7 3 [flB (cmB q)] (noneV n) 0
    have hn := h.hn
    refine ⟨noneV_ok (by omega) (by omega), .inr (.inl ⟨hp1, hq2⟩), fun _ => hc2, hc3, fun i h1 hi e1 e2 => by omega, fun i h1 hi e1 e2 => ?_, fun p hp2 m' hm' => ?_, ?_, ?_, fun i h1 hi e => ⟨fun e2 => by omega, fun _ => .inl ⟨_, missF_mem.2 ⟨i, by omega, e, rfl⟩, rfl, by simp⟩⟩⟩
    · have := noneV_one h0 hi e1; omega
    · obtain ⟨k, hk1, hk2, rfl⟩ := missF_mem.1 hm'
      rw [Nat.zero_add]
      have : k ≠ 0 := fun e => by subst e; cases hk2
      exact dec_ok hp2 (by omega) (by omega) (by omega)
    · rw [hnl] at hml; exact hml
    · have h5 := wts_le (k := 2) (l := missF ((0 : Nat) : Int) 7 3 [flB (cmB q)] 0 (noneV n)) fun m' hm' => by
        obtain ⟨k, hk1, hk2, rfl⟩ := missF_mem.1 hm'
        exact Nat.le_refl 2
      rw [hnl] at hml
      unfold pot
      rw [if_neg (by omega), if_pos hp1]
      simp only [wt, hk]
      have h6 : 2 * (missF ((0 : Nat) : Int) 7 3 [flB (cmB q)] 0 (noneV n)).length ≤ 2 * n := Nat.mul_le_mul_left 2 hml
      omega
  rcases hc with ⟨he, hy⟩ | ⟨he, hy⟩ | ⟨he, hy⟩
  · by_cases hp : ph = 1
    · cases hh : hz (vo.set j 1) with
      | true =>
        refine ⟨1, vo.set j 1, [], ?_, hvo.set hj1 hj2 (by rw [hh]; simp), .inl hp.symm, by omega, by omega, fun i h1 hi e1 _ => ?_, by omega, fun _ _ _ h => (by cases h), by simp, ?_, fun i h1 hi e => ⟨fun _ => ?_, by omega⟩⟩
        · rw [he]
          unfold coordP
          dsimp only
          rw [if_pos hcond, if_pos rfl, bitM_01 (.inr rfl), if_neg (by omega), if_neg (by omega), if_neg (by omega), Int.toNat_natCast, hh, if_pos rfl, hp]
        · rw [nv_set (by omega)] at e1
          split at e1
          · rename_i e2; subst e2; exact hy hp
          · exact hv1 i h1 hi e1 hp
        · rw [he, hp, wts_nil]; simp [wt]
        · rw [nv_set (by omega)] at e
          split at e
          · cases e
          · rename_i e2
            refine ⟨hp, e, fun e3 => ?_⟩
            rw [he] at e3
            dsimp only at e3
            omega
      | false =>
        have hall : ∀ i, 1 ≤ i → i < n → (bank y i).ph = 1 := fun i h1 hi => by
          have := hz_false.1 hh i (by rw [List.length_set]; omega)
          rw [nv_set (by omega)] at this
          split at this
          · rename_i e2; subst e2; exact hy hp
          · have := hvo.b i hi
            exact hv1 i h1 hi (by omega) hp
        refine ⟨2, noneV vo.length, _, ?_, start 2 (.inl rfl) hp (fun _ => hall) (by simp) (by rw [he])⟩
        rw [he]
        unfold coordP decP
        dsimp only
        rw [if_pos hcond, if_pos rfl, bitM_01 (.inr rfl), if_neg (by omega), if_neg (by omega), if_neg (by omega), Int.toNat_natCast, hh, if_neg (by simp)]
    · obtain ⟨q, vo', l, e1, e2, e3, e4⟩ := vote 1 (.inr rfl) he hp
      exact ⟨q, vo', l, by rw [e1], same q vo' l e2 e3 e4 (by rw [he]) hp⟩
  · by_cases hp : ph = 1
    · refine ⟨3, noneV vo.length, _, ?_, start 3 (.inr rfl) hp (by omega) (fun e => absurd hy ((hsm e).2.2.2 j hj1 hj2)) (by rw [he])⟩
      rw [he]
      unfold coordP decP
      dsimp only
      rw [if_pos hcond, if_pos rfl, bitM_01 (.inl rfl), if_neg (by omega), if_neg (by omega), if_pos rfl]
    · obtain ⟨q, vo', l, e1, e2, e3, e4⟩ := vote 0 (.inl rfl) he hp
      exact ⟨q, vo', l, by rw [e1], same q vo' l e2 e3 e4 (by rw [he]) hp⟩
  · by_cases hp : ph = 2 ∨ ph = 3
    · have hset : ∀ i, 1 ≤ i → i < n → nv (vo.set j 1) i = 1 → (bank y i).ph = 4 ∨ (bank y i).ph = 5 := fun i h1 hi e1 => by
        rw [nv_set (by omega)] at e1
        split at e1
        · rename_i e2; subst e2; exact hy
        · exact hv2 i h1 hi e1 (by omega)
      cases hh : hz (vo.set j 1) with
      | true =>
        refine ⟨ph, vo.set j 1, [], ?_, hvo.set hj1 hj2 (by rw [hh]; simp; omega), .inl rfl, by omega, fun e => (hsm e).2.1, fun i h1 hi e1 _ => by omega, fun i h1 hi e1 _ => hset i h1 hi e1, fun _ _ _ h => (by cases h), by simp, ?_, fun i h1 hi e => ⟨by omega, fun _ => .inr ?_⟩⟩
        · rw [he]
          unfold coordP
          dsimp only
          rw [if_pos hcond, if_neg (by omega), if_pos ⟨rfl, rfl, hp⟩, Int.toNat_natCast, hh, if_pos rfl]
        · rw [he, wts_nil]; simp [wt]
        · rw [nv_set (by omega)] at e
          split at e
          · cases e
          · rename_i e2
            refine ⟨rfl, e, fun e3 => ?_⟩
            rw [he] at e3
            dsimp only at e3
            omega
      | false =>
        refine ⟨ph + 2, vo.set j 1, [], ?_, hvo.set hj1 hj2 (by rw [hh]; simp; omega), by omega, by omega, by omega, fun i h1 hi e1 _ => by omega, fun i h1 hi e1 _ => hset i h1 hi e1, fun _ _ _ h => (by cases h), by simp, ?_, fun i h1 hi e => ⟨by omega, by omega⟩⟩
        · rw [he]
          unfold coordP
          dsimp only
          rw [if_pos hcond, if_neg (by omega), if_pos ⟨rfl, rfl, hp⟩, Int.toNat_natCast, hh, if_neg (by simp)]
        · rw [he, wts_nil, show pot (ph + 2) = 0 from if_neg (by omega)]
          exact Nat.lt_of_lt_of_le (show 0 + 0 < wt ⟨j, 0, 4, 7, []⟩ from by simp [wt]) (Nat.le_add_right _ _)
    · refine ⟨ph, vo, [], ?_, hvo, .inl rfl, fun _ e => by omega, fun e => (hsm e).2.1, fun i h1 hi e1 e2 => hv1 i h1 hi e1 e2, fun i h1 hi e1 e2 => hv2 i h1 hi e1 e2, fun _ _ _ h => (by cases h), by simp, ?_, fun i h1 hi e => ⟨fun e2 => ⟨e2, e, ?_⟩, by omega⟩⟩
      · rw [he]
        unfold coordP
        dsimp only
        rw [if_pos hcond, if_neg (by omega), if_neg (fun h => hp h.2.2)]
      · rw [he, wts_nil]; simp [wt]
      · rw [he]; simp
end Go.Proofs.Ytagmoecojmlogaa
namespace Go.Proofs.Ytagmoecojmlogaa
set_option maxRecDepth 20000
set_option linter.unusedSimpArgs false
set_option linter.unusedVariables false
open Go Go.Fw
variable {n : Nat} {T : Nat → List C3} {ok : Bool} {y : YS}
theorem Inv.dc (h : Inv n T ok y) {i : Nat} (hi : i < n) : dcP (bank y i) = if 2 ≤ (bank y i).ph then (true, cmB (bank y i).ph) else (false, false) := by
  unfold dcP
  rw [h.sv hi]
  by_cases h2 : 2 ≤ (bank y i).ph
  · rw [if_pos ⟨rfl, h2⟩, if_pos h2]
  · rw [if_neg fun e => h2 e.2, if_neg h2]
theorem set_bank (i : Nat) : y.bs.set i (bank y i) = y.bs := by
  unfold bank
  by_cases h : i < y.bs.length
  · rw [List.getD_eq_getElem?_getD, List.getElem?_eq_getElem h]
    exact List.set_getElem_self h
  · exact List.set_eq_of_length_le (by omega)
theorem keeps_of (h : Inv n T ok y) {y' : YS} (h' : Inv n T ok y') (hk : ∀ i, i < n → 2 ≤ (bank y i).ph → 2 ≤ (bank y' i).ph ∧ cmB (bank y' i).ph = cmB (bank y i).ph) : Keeps n y y' := by
  intro i hi hd
  rw [h.dc hi] at hd ⊢
  rw [h'.dc hi]
  by_cases h2 : 2 ≤ (bank y i).ph
  · obtain ⟨e1, e2⟩ := hk i hi h2
    rw [if_pos h2, if_pos e1, e2]
  · rw [if_neg h2] at hd; cases hd
/-- What a delivery says. -/
structure DlvR (n : Nat) (T : Nat → List C3) (ok : Bool) (y : YS) (m : MV) : Prop where
  i : ∃ i : Nat, i < n ∧ m.to = i
  e : (recvP (bank y m.to.toNat) m).2.2 = 0
  l : (recvP (bank y m.to.toNat) m).2.1.length ≤ n
  inv : Inv n T ok (dlvY y m)
  k : Keeps n y (dlvY y m)
  w : wts (dlvY y m).way + pot (bank (dlvY y m) 0).ph < wts y.way + wt m + pot (bank y 0).ph
theorem Inv.dlv (h : Inv n T ok y) {m : MV} (hm : MOK n (bodyP (T 0)) (fun i => (bank y i).ph) m) : DlvR n T ok y m := by
  obtain ⟨_, _, i, hi, hto⟩ := h.mv hm
  have hti : m.to.toNat = i := by omega
  have hn := h.hn
  by_cases h0 : i = 0
  · subst h0
    obtain ⟨q, vo, l, er, c0, c1, c2, c3, c4, c5, c6, c7, c8, c9⟩ := dlv_coord h hm hto
    have hd : dlvY y m = ⟨y.bs.set 0 (atC (bank y 0) q vo), y.way ++ l⟩ := by unfold dlvY; rw [hti, er]
    have hi1 := h.coord c0 c1 c2 c3 c4 c5
    have hb0 : bank ⟨y.bs.set 0 (atC (bank y 0) q vo), y.way⟩ 0 = atC (bank y 0) q vo := by rw [bank_set (way := y.way) (by rw [h.len]; omega), if_pos rfl]
    have hbj : ∀ j, 1 ≤ j → bank ⟨y.bs.set 0 (atC (bank y 0) q vo), y.way⟩ j = bank y j := fun j hj => by rw [bank_set (way := y.way) (by rw [h.len]; omega), if_neg (by omega)]
    have hi2 := hi1.add (l := l) (c6 _ (by rw [hb0]))
    refine ⟨⟨0, hi, hto⟩, by rw [hti, er], by rw [hti, er]; exact c7, by rw [hd]; exact hi2, ?_, ?_⟩
    · rw [hd]
      refine keeps_of h hi2 fun j hj h2 => ?_
      by_cases hj0 : j = 0
      · subst hj0
        have : (bank ⟨y.bs.set 0 (atC (bank y 0) q vo), y.way ++ l⟩ 0).ph = q := congrArg SV.ph hb0
        rw [this]
        unfold cmB
        refine ⟨by omega, decide_eq_decide.2 (by omega)⟩
      · have : bank ⟨y.bs.set 0 (atC (bank y 0) q vo), y.way ++ l⟩ j = bank y j := hbj j (by omega)
        rw [this]
        exact ⟨h2, rfl⟩
    · rw [hd]
      have : (bank ⟨y.bs.set 0 (atC (bank y 0) q vo), y.way ++ l⟩ 0).ph = q := congrArg SV.ph hb0
      rw [this, wts_app]
      omega
  · obtain ⟨q, l, er, c1, c2, c3, c4, c5, c6, c7, c8, c9, -⟩ := dlv_part h hm (by omega) hi hto
    have hd : dlvY y m = ⟨y.bs.set i (atP (bank y i) q), y.way ++ l⟩ := by unfold dlvY; rw [hti, er]
    have hi1 := h.part (by omega) hi c1 c2 c3 c4 c5 c6
    have hbi : bank ⟨y.bs.set i (atP (bank y i) q), y.way⟩ i = atP (bank y i) q := by rw [bank_set (way := y.way) (by rw [h.len]; omega), if_pos rfl]
    have hbj : ∀ j, j ≠ i → bank ⟨y.bs.set i (atP (bank y i) q), y.way⟩ j = bank y j := fun j hj => by rw [bank_set (way := y.way) (by rw [h.len]; omega), if_neg hj]
    have hi2 := hi1.add (l := l) (c7 _ (by rw [hbj 0 (by omega)]) (by rw [hbi]))
    refine ⟨⟨i, hi, hto⟩, by rw [hti, er], by rw [hti, er]; exact Nat.le_trans c8 h.hn.1, by rw [hd]; exact hi2, ?_, ?_⟩
    · rw [hd]
      refine keeps_of h hi2 fun j hj h2 => ?_
      by_cases hji : j = i
      · subst hji
        have : (bank ⟨y.bs.set j (atP (bank y j) q), y.way ++ l⟩ j).ph = q := congrArg SV.ph hbi
        rw [this]
        have := h.pr (i := j) (by omega) hj
        rw [c4 (by omega)]
        exact ⟨h2, rfl⟩
      · have : bank ⟨y.bs.set i (atP (bank y i) q), y.way ++ l⟩ j = bank y j := hbj j hji
        rw [this]
        exact ⟨h2, rfl⟩
    · rw [hd]
      have : bank ⟨y.bs.set i (atP (bank y i) q), y.way ++ l⟩ 0 = bank y 0 := hbj 0 (by omega)
      rw [this, wts_app]
      omega
/-- The first message is delivered: all that are missing are still reached. -/
theorem Jn.dlv {m : MV} {r : List MV} (h : Inv n T ok ⟨y.bs, m :: r⟩) (hJ : Jn n ⟨y.bs, m :: r⟩) : Jn n (dlvY ⟨y.bs, r⟩ m) := by
  have hm : MOK n (bodyP (T 0)) (fun i => (bank y i).ph) m := h.ms m (List.mem_cons_self ..)
  have h' : Inv n T ok ⟨y.bs, r⟩ := h.sub fun x hx => List.mem_cons_of_mem _ hx
  obtain ⟨_, _, i, hi, hto⟩ := h.mv hm
  have hti : m.to.toNat = i := by omega
  have hn := h.hn
  have hbl : y.bs.length = n := h.len
  have hne : i ≠ 0 → m.to ≠ 0 := fun e => by omega
  have hij : ∀ j : Nat, m.to = j → i = j := fun j e => by omega
  have h0n : 0 < n := by omega
  have hJ' : ∀ i, 1 ≤ i → i < n → nv (bank y 0).vo i = 0 → ((bank y 0).ph = 1 → ∃ m' ∈ m :: r, (m'.ki = 1 ∧ m'.to = i) ∨ (m'.ki = 2 ∧ m'.fr = i)) ∧ ((bank y 0).ph = 2 ∨ (bank y 0).ph = 3 → ∃ m' ∈ m :: r, (m'.ki = 3 ∧ m'.to = i) ∨ (m'.ki = 4 ∧ m'.fr = i)) := hJ
  have hk12 : m.ki = 1 ∨ m.ki = 2 ∨ m.ki = 3 ∨ m.ki = 4 := by cases hm <;> simp
  have hk13 : m.ki = 1 ∨ m.ki = 3 → m.to ≠ 0 := by cases hm <;> (dsimp only; omega)
  have hk24 : m.ki = 2 ∨ m.ki = 4 → m.to = 0 := by cases hm <;> (dsimp only; omega)
  by_cases h0 : i = 0
  · subst h0
    obtain ⟨q, vo, l, er, c0, c1, c2, c3, c4, c5, c6, c7, c8, c9⟩ := dlv_coord h' hm hto
    have hd : dlvY ⟨y.bs, r⟩ m = ⟨y.bs.set 0 (atC (bank y 0) q vo), r ++ l⟩ := by
      unfold dlvY
      rw [hti]
      show (⟨y.bs.set 0 (recvP (bank ⟨y.bs, r⟩ 0) m).1, r ++ (recvP (bank ⟨y.bs, r⟩ 0) m).2.1⟩ : YS) = _
      rw [er]
      rfl
    have hb0 : bank ⟨y.bs.set 0 (atC (bank y 0) q vo), r ++ l⟩ 0 = atC (bank y 0) q vo := by rw [bank_set (way := r) (by rw [hbl]; exact h0n), if_pos rfl]
    rw [hd]
    intro j hj1 hj2 hz
    rw [hb0] at hz ⊢
    obtain ⟨d1, d2⟩ := c9 j hj1 hj2 hz
    refine ⟨fun e => ?_, fun e => ?_⟩
    · obtain ⟨e1, e2, e3⟩ := d1 e
      obtain ⟨m', hm', hw⟩ := (hJ' j hj1 hj2 e2).1 e1
      rcases List.mem_cons.1 hm' with rfl | hm'
      · rcases hw with hw | hw
        · exact absurd hto (hk13 (.inl hw.1))
        · exact absurd hw e3
      · exact ⟨m', List.mem_append_left _ hm', hw⟩
    · rcases d2 e with ⟨m', hm', hw⟩ | ⟨e1, e2, e3⟩
      · exact ⟨m', List.mem_append_right _ hm', .inl hw⟩
      · obtain ⟨m', hm', hw⟩ := (hJ' j hj1 hj2 e2).2 (by have e1 : (bank y 0).ph = q := e1; rw [e1]; exact e)
        rcases List.mem_cons.1 hm' with rfl | hm'
        · rcases hw with hw | hw
          · exact absurd hto (hk13 (.inr hw.1))
          · exact absurd hw e3
        · exact ⟨m', List.mem_append_left _ hm', hw⟩
  · obtain ⟨q, l, er, c1, c2, c3, c4, c5, c6, c7, c8, c9, c10, c11⟩ := dlv_part h' hm (Nat.pos_of_ne_zero h0) hi hto
    have hd : dlvY ⟨y.bs, r⟩ m = ⟨y.bs.set i (atP (bank y i) q), r ++ l⟩ := by
      unfold dlvY
      rw [hti]
      show (⟨y.bs.set i (recvP (bank ⟨y.bs, r⟩ i) m).1, r ++ (recvP (bank ⟨y.bs, r⟩ i) m).2.1⟩ : YS) = _
      rw [er]
      rfl
    have hb0 : bank ⟨y.bs.set i (atP (bank y i) q), r ++ l⟩ 0 = bank y 0 := by rw [bank_set (way := r) (by rw [hbl]; exact hi), if_neg (Ne.symm h0)]; rfl
    rw [hd]
    intro j hj1 hj2 hz
    rw [hb0] at hz ⊢
    obtain ⟨d1, d2⟩ := hJ' j hj1 hj2 hz
    refine ⟨fun e => ?_, fun e => ?_⟩
    · obtain ⟨m', hm', hw⟩ := d1 e
      rcases List.mem_cons.1 hm' with rfl | hm'
      · rcases hw with hw | hw
        · obtain ⟨m2, hm2, hw2⟩ := c10 hw.1 e
          have : i = j := hij j hw.2
          subst this
          exact ⟨m2, List.mem_append_right _ hm2, .inr hw2⟩
        · exact absurd (hk24 (.inl hw.1)) (hne h0)
      · exact ⟨m', List.mem_append_left _ hm', hw⟩
    · obtain ⟨m', hm', hw⟩ := d2 e
      rcases List.mem_cons.1 hm' with rfl | hm'
      · rcases hw with hw | hw
        · obtain ⟨m2, hm2, hw2⟩ := c11 hw.1
          have : i = j := hij j hw.2
          subst this
          exact ⟨m2, List.mem_append_right _ hm2, .inr hw2⟩
        · exact absurd (hk24 (.inr hw.1)) (hne h0)
      · exact ⟨m', List.mem_append_left _ hm', hw⟩
/-- What a tick says. -/
structure TickR (n : Nat) (T : Nat → List C3) (ok : Bool) (y : YS) (i : Nat) : Prop where
  e : (tickP (bank y i)).2.2 = 0
  l : (tickP (bank y i)).2.1.length ≤ n
  s : (tickP (bank y i)).1 = bank y i
  bs : (tickY y i).bs = y.bs
  inv : Inv n T ok (tickY y i)
  w : wts (tickY y i).way ≤ wts y.way + (if i = 0 then 32 else 4)
theorem Inv.tick (h : Inv n T ok y) {i : Nat} (hi : i < n) : TickR n T ok y i ∧ (i = 0 → Jn n (tickY y i)) ∧ (Jn n y → Jn n (tickY y i)) := by
  have hsv := h.sv hi
  obtain ⟨s1, s2, s3, s4⟩ := h.sh i hi
  have hn := h.hn
  have key : ∃ l, tickP (bank y i) = (bank y i, l, 0) ∧ (∀ m ∈ l, MOK n (bodyP (T 0)) (fun i => (bank y i).ph) m) ∧ l.length ≤ n ∧ wts l ≤ (if i = 0 then 32 else 4) ∧
      (i = 0 → Jn n ⟨y.bs, y.way ++ l⟩) := by
    unfold tickP
    rw [if_pos hsv]
    by_cases h0 : i = 0
    · subst h0
      have hq := h.q0
      have hvo := h.vo
      have hk : ∀ (ki : Int) (bo : List Int), (ki = 1 ∨ ki = 3) → ∀ m ∈ missF (bank y 0).bk (bank y 0).ro ki bo 0 (bank y 0).vo, ∃ j, 1 ≤ j ∧ j < n ∧ nv (bank y 0).vo j = 0 ∧ m = ⟨0, (j : Int), ki, 7, bo⟩ := by
        intro ki bo hk m hm
        obtain ⟨j, h1, h2, rfl⟩ := missF_mem.1 hm
        have hl := hvo.len
        have hz := hvo.z
        have : j ≠ 0 := fun e => by subst e; rw [h2] at hz; cases hz
        exact ⟨j, by omega, by omega, h2, by rw [s1, s2, Nat.zero_add]; rfl⟩
      have hml := fun ki bo => missF_length (bank y 0).bk (bank y 0).ro ki bo (bank y 0).vo 0
      rw [hvo.len] at hml
      have hw : ∀ ki bo, (ki = 1 ∨ ki = 3) → wts (missF (bank y 0).bk (bank y 0).ro ki bo 0 (bank y 0).vo) ≤ 32 := fun ki bo hki => by
        have h5 := wts_le (k := 4) (l := missF (bank y 0).bk (bank y 0).ro ki bo 0 (bank y 0).vo) fun m hm => by
          obtain ⟨j, _, _, _, rfl⟩ := hk ki bo hki m hm
          unfold wt
          dsimp only
          omega
        have := hml ki bo
        omega
      rw [if_neg (by rw [s2]; simp)]
      by_cases h1 : (bank y 0).ph = 1
      · rw [if_pos h1]
        refine ⟨_, rfl, fun m hm => ?_, hml _ _, by rw [if_pos rfl]; exact hw 1 _ (.inl rfl), fun _ j hj1 hj2 hz => ⟨fun _ => ?_, fun e => ?_⟩⟩
        · obtain ⟨j, hj1, hj2, _, rfl⟩ := hk 1 _ (.inl rfl) m hm
          rw [s4]
          exact .prep j hj1 hj2
        · exact ⟨_, List.mem_append_right _ (missF_mem.2 ⟨j, by rw [hvo.len]; exact hj2, hz, rfl⟩), .inl ⟨rfl, by simp⟩⟩
        · have : (bank ⟨y.bs, y.way ++ missF (bank y 0).bk (bank y 0).ro 1 (bodyP (bank y 0).tr) 0 (bank y 0).vo⟩ 0).ph = (bank y 0).ph := rfl
          omega
      · rw [if_neg h1]
        refine ⟨_, rfl, fun m hm => ?_, hml _ _, by rw [if_pos rfl]; exact hw 3 _ (.inr rfl), fun _ j hj1 hj2 hz => ⟨fun e => ?_, fun _ => ?_⟩⟩
        · obtain ⟨j, hj1, hj2, _, rfl⟩ := hk 3 _ (.inr rfl) m hm
          exact dec_ok rfl (by omega) hj1 hj2
        · exact absurd e h1
        · exact ⟨_, List.mem_append_right _ (missF_mem.2 ⟨j, by rw [hvo.len]; exact hj2, hz, rfl⟩), .inl ⟨rfl, by simp⟩⟩
    · rw [if_pos (by omega)]
      by_cases h1 : (bank y i).ph = 1
      · rw [if_pos h1]
        refine ⟨_, rfl, fun m hm => ?_, by simp; omega, ?_, fun e => absurd e h0⟩
        · rw [List.mem_singleton.1 hm, s1, s2]
          exact .yes i (by omega) hi fun _ => h1
        · rw [if_neg h0, wts_cons, wts_nil]; simp [wt]
      · rw [if_neg h1]
        exact ⟨[], rfl, fun _ h => (by cases h), by simp, by rw [wts_nil]; exact Nat.zero_le _, fun e => absurd e h0⟩
  obtain ⟨l, e, k1, k2, k3, k4⟩ := key
  have hd : tickY y i = ⟨y.bs, y.way ++ l⟩ := by unfold tickY; rw [e]; simp only [set_bank]
  refine ⟨⟨by rw [e], by rw [e]; exact k2, by rw [e], by rw [hd], by rw [hd]; exact h.add k1, by rw [hd]; show wts (y.way ++ l) ≤ _; rw [wts_app]; omega⟩, fun h0 => by rw [hd]; exact k4 h0, fun hJ => ?_⟩
  rw [hd]
  intro j hj1 hj2 hz
  obtain ⟨d1, d2⟩ := hJ j hj1 hj2 hz
  exact ⟨fun e => let ⟨m, hm, hw⟩ := d1 e; ⟨m, List.mem_append_left _ hm, hw⟩, fun e => let ⟨m, hm, hw⟩ := d2 e; ⟨m, List.mem_append_left _ hm, hw⟩⟩
theorem Inv.tick_keeps (h : Inv n T ok y) {i : Nat} (hi : i < n) : Keeps n y (tickY y i) := by
  intro j _ _
  have := (h.tick hi).1.bs
  unfold bank
  rw [this]
/-- No message is under way: the coordinator has learnt it. -/
theorem Jn.done (h : Inv n T ok ⟨y.bs, []⟩) (hJ : Jn n ⟨y.bs, []⟩) : (bank y 0).ph = 4 ∨ (bank y 0).ph = 5 := by
  have hq : 1 ≤ (bank y 0).ph ∧ (bank y 0).ph ≤ 5 := h.q0
  have hvo : VoOK n (bank y 0).ph (bank y 0).vo := h.vo
  by_cases h4 : (bank y 0).ph < 4
  · obtain ⟨i, hi, hz⟩ := hz_true.1 (hvo.h.2 h4)
    have h0 : i ≠ 0 := fun e => by have := hvo.z; subst e; rw [hz] at this; cases this
    obtain ⟨d1, d2⟩ := hJ i (by omega) (by rw [← hvo.len]; exact hi) hz
    have d1 : (bank y 0).ph = 1 → ∃ m ∈ ([] : List MV), _ := d1
    have d2 : (bank y 0).ph = 2 ∨ (bank y 0).ph = 3 → ∃ m ∈ ([] : List MV), _ := d2
    by_cases h1 : (bank y 0).ph = 1
    · obtain ⟨m, hm, _⟩ := d1 h1; cases hm
    · obtain ⟨m, hm, _⟩ := d2 (by omega); cases hm
  · omega
end Go.Proofs.Ytagmoecojmlogaa
namespace Go.Proofs.Ytagmoecojmlogaa
set_option maxRecDepth 20000
set_option linter.unusedSimpArgs false
set_option linter.unusedVariables false
open Go Go.Fw
theorem bI_inj {k a b : Nat} (ha : a < 256 ^ k) (hb : b < 256 ^ k) (h : bI k a = bI k b) : a = b := by
  unfold bI at h
  have h1 : lw 256 k a = lw 256 k b := by
    have := (List.map_inj_right (fun x y e => Int.ofNat.inj e)).1 h
    exact List.reverse_inj.1 this
  have h2 := congrArg (vl 256) h1
  rw [vl_lw, vl_lw, Nat.mod_eq_of_lt ha, Nat.mod_eq_of_lt hb] at h2
  exact h2
theorem lfN_inj {a b : Int} (ha : 0 ≤ a ∧ a < 9223372036854775808) (hb : 0 ≤ b ∧ b < 9223372036854775808) (h : lfN a = lfN b) : a = b := by
  unfold lfN at h
  injection h with _ h
  obtain ⟨a, rfl⟩ := Int.eq_ofNat_of_zero_le ha.1
  obtain ⟨b, rfl⟩ := Int.eq_ofNat_of_zero_le hb.1
  rw [u64_nat (by omega), u64_nat (by omega)] at h
  have := bI_inj (by omega) (by omega) h
  omega
theorem flat_inj : ∀ {a b : List Int}, (∀ x ∈ a, 0 ≤ x ∧ x < 9223372036854775808) → (∀ x ∈ b, 0 ≤ x ∧ x < 9223372036854775808) → a.flatMap lfN = b.flatMap lfN → a = b
  | [], [], _, _, _ => rfl
  | [], b :: bs, _, _, h => by
    have := congrArg List.length h
    rw [List.flatMap_cons, List.length_append, lfN_length] at this
    simp at this
    omega
  | a :: a2, [], _, _, h => by
    have := congrArg List.length h
    rw [List.flatMap_cons, List.length_append, lfN_length] at this
    simp at this
  | a :: a2, b :: bs, ha, hb, h => by
    rw [List.flatMap_cons, List.flatMap_cons] at h
    obtain ⟨h1, h2⟩ := List.append_inj h (by rw [lfN_length, lfN_length])
    rw [lfN_inj (ha a (List.mem_cons_self ..)) (hb b (List.mem_cons_self ..)) h1, flat_inj (fun x hx => ha x (List.mem_cons_of_mem _ hx)) (fun x hx => hb x (List.mem_cons_of_mem _ hx)) h2]
theorem intsT_inj : ∀ {a b : List C3}, intsT a = intsT b → a = b
  | [], [], _ => rfl
  | [], _ :: _, h => by unfold intsT at h; simp at h
  | _ :: _, [], h => by unfold intsT at h; simp at h
  | a :: a2, b :: bs, h => by
    unfold intsT at h
    simp only [List.flatMap_cons, List.cons_append, List.nil_append] at h
    injection h with h1 h
    injection h with h2 h
    injection h with h3 h
    rw [intsT_inj (a := a2) (b := bs) h]
    obtain ⟨f, t, x⟩ := a
    obtain ⟨f', t', x'⟩ := b
    dsimp only at h1 h2 h3
    rw [h1, h2, h3]
theorem tf_bounds {n : Int} {t : C3} (h : tfB n t = true) : (0 ≤ t.f ∧ t.f ≤ n - 1) ∧ (0 ≤ t.t ∧ t.t ≤ n - 1) ∧ t.f ≠ t.t ∧ (1 ≤ t.a ∧ t.a ≤ 1125899906842624) := by
  unfold tfB at h
  simp only [Bool.and_eq_true, inn_iff, Bool.not_eq_true', decide_eq_false_iff_not] at h
  exact ⟨h.1.1.1, h.1.1.2, h.1.2, h.2⟩
theorem tr_bounds {n : Int} {l : List C3} (h : trB n l = true) : ∀ t ∈ l, tfB n t = true := by
  unfold trB at h
  rw [Bool.and_eq_true] at h
  exact List.all_eq_true.1 h.2
theorem body_inj {n : Nat} (hn : n ≤ 8) {a b : List C3} (ha : trB n a = true) (hb : trB n b = true) (h : bodyP a = bodyP b) : a = b := by
  have key : ∀ l : List C3, trB n l = true → ∀ x ∈ intsT l, 0 ≤ x ∧ x < 9223372036854775808 := fun l hl x hx => by
    unfold intsT at hx
    obtain ⟨t, ht, hx⟩ := List.mem_flatMap.1 hx
    have := tf_bounds (tr_bounds hl t ht)
    simp only [List.mem_cons, List.not_mem_nil, or_false] at hx
    omega
  unfold bodyP inE at h
  injection h with _ h
  obtain ⟨_, h2⟩ := List.append_inj h (by rw [bI_length, bI_length])
  exact intsT_inj (flat_inj (key a ha) (key b hb) h2)
section
variable {n : Nat} {T : Nat → List C3} {ok : Bool} {y : YS}
/-- One commits: all had the same transfers, and none aborts. -/
theorem Inv.commits (h : Inv n T ok y) (hT : (∀ i, i < n → T i = T 0) → ok = true) {i : Nat} (hi : i < n) (hc : dcP (bank y i) = (true, true)) : ok = true ∧ ∀ j, j < n → dcP (bank y j) ≠ (true, false) := by
  have hq := h.q0
  have hn := h.hn
  rw [h.dc hi] at hc
  have hi2 : 2 ≤ (bank y i).ph ∧ cmB (bank y i).ph = true := by
    split at hc
    · rename_i h2; injection hc with _ hc; exact ⟨h2, hc⟩
    · cases hc
  have hc24 : (bank y i).ph = 2 ∨ (bank y i).ph = 4 := of_decide_eq_true hi2.2
  have h0 : (bank y 0).ph = 2 ∨ (bank y 0).ph = 4 := by
    by_cases hi0 : i = 0
    · subst hi0; exact hc24
    · have := h.a1 i (by omega) hi
      have := h.a3 i (by omega) hi
      omega
  have hp := fun j h1 hj => h.a2 j h1 hj h0
  refine ⟨hT fun j hj => ?_, fun j hj e => ?_⟩
  · by_cases hj0 : j = 0
    · rw [hj0]
    · exact body_inj hn.2 (h.ht j hj).1 (h.ht 0 (by omega)).1 (h.bd j (by omega) hj (hp j (by omega) hj))
  · rw [h.dc hj] at e
    split at e
    · rename_i h2
      injection e with _ e
      have e : ¬ ((bank y j).ph = 2 ∨ (bank y j).ph = 4) := of_decide_eq_false e
      by_cases hj0 : j = 0
      · subst hj0; exact e h0
      · have := hp j (by omega) hj; omega
    · cases e
/-- The coordinator has learnt it: all have decided, as they should. -/
theorem Inv.ended (h : Inv n T ok y) (hT : (∀ i, i < n → T i = T 0) → ok = true) (h0 : (bank y 0).ph = 4 ∨ (bank y 0).ph = 5) : (bank y 0).ph = (if ok = true then 4 else 5) ∧ ∀ i, i < n → (bank y i).ph = (bank y 0).ph := by
  have hn := h.hn
  have hvo := h.vo
  have hall : ∀ i, 1 ≤ i → i < n → (bank y i).ph = (bank y 0).ph := fun i h1 hi => by
    have hz : hz (bank y 0).vo = false := Bool.eq_false_iff.2 fun e => by have := hvo.h.1 e; omega
    have := hz_false.1 hz i (by rw [hvo.len]; exact hi)
    have := hvo.b i hi
    have := h.v2 i h1 hi (by omega) (by omega)
    have := h.a2 i h1 hi
    have := h.a3 i h1 hi
    omega
  refine ⟨?_, fun i hi => ?_⟩
  · cases hok : ok with
    | true =>
      have := (h.sm hok).2.2.1
      rw [if_pos rfl]; omega
    | false =>
      rw [if_neg (by simp)]
      rcases h0 with h4 | h5
      · have := (h.commits hT (i := 0) (by omega) (by rw [h.dc (by omega), if_pos (by omega), h4]; rfl)).1
        rw [hok] at this; cases this
      · exact h5
  · by_cases hi0 : i = 0
    · rw [hi0]
    · exact hall i (by omega) hi
end
def sumR (f : Nat → Int) : Nat → Int
  | 0 => 0
  | k + 1 => sumR f k + f k
theorem sumR_add (f g : Nat → Int) : ∀ k, sumR (fun i => f i + g i) k = sumR f k + sumR g k
  | 0 => rfl
  | k + 1 => by unfold sumR; rw [sumR_add f g k]; omega
theorem sumR_zero : ∀ k, sumR (fun _ => 0) k = 0
  | 0 => rfl
  | k + 1 => by unfold sumR; rw [sumR_zero k]; rfl
theorem sumR_congr {f g : Nat → Int} : ∀ {k}, (∀ i, i < k → f i = g i) → sumR f k = sumR g k
  | 0, _ => rfl
  | k + 1, h => by unfold sumR; rw [sumR_congr fun i hi => h i (by omega), h k (by omega)]
theorem sumR_at (c a : Int) : ∀ k : Nat, sumR (fun i => if (i : Int) = c then a else 0) k = if 0 ≤ c ∧ c < k then a else 0
  | 0 => by rw [if_neg (by omega)]; rfl
  | k + 1 => by
    unfold sumR
    rw [sumR_at c a k]
    by_cases h : (k : Int) = c
    · rw [if_neg (by omega), if_pos h, if_pos (by omega)]; omega
    · rw [if_neg h]
      by_cases h2 : 0 ≤ c ∧ c < k
      · rw [if_pos h2, if_pos (by omega)]; omega
      · rw [if_neg h2, if_neg (by omega)]; omega
theorem amt_sum {n : Nat} {t : C3} (h : tfB n t = true) : sumR (fun i => amt i t) n = 0 := by
  obtain ⟨h1, h2, h3, h4⟩ := tf_bounds h
  have e : ∀ i : Nat, i < n → amt i t = (if (i : Int) = t.t then t.a else 0) + (if (i : Int) = t.f then -t.a else 0) := fun i _ => by
    unfold amt
    by_cases h : (i : Int) = t.t
    · rw [if_pos h, if_pos h, if_neg (by omega)]; omega
    · rw [if_neg h, if_neg h]; omega
  rw [sumR_congr e, sumR_add, sumR_at, sumR_at, if_pos (by omega), if_pos (by omega)]
  omega
/-- The amounts sum to nothing. -/
theorem sumT_sum {n : Nat} : ∀ {l : List C3}, (∀ t ∈ l, tfB n t = true) → sumR (fun i => sumT i l) n = 0
  | [], _ => sumR_zero n
  | t :: l, h => by
    have e : ∀ i : Nat, i < n → sumT i (t :: l) = amt i t + sumT i l := fun i _ => by unfold sumT; rw [List.map_cons, List.sum_cons]
    rw [sumR_congr e, sumR_add, amt_sum (h t (List.mem_cons_self ..)), sumT_sum fun x hx => h x (List.mem_cons_of_mem _ hx)]
    rfl
theorem sumT_bound {n : Int} {bk : Int} : ∀ {l : List C3}, (∀ t ∈ l, tfB n t = true) → -(l.length * 1125899906842624) ≤ sumT bk l ∧ sumT bk l ≤ l.length * 1125899906842624
  | [], _ => by unfold sumT; simp
  | t :: l, h => by
    have h1 := amt_bound (bk := bk) (tf_bounds (h t (List.mem_cons_self ..))).2.2.2
    have h2 := sumT_bound (bk := bk) (l := l) fun x hx => h x (List.mem_cons_of_mem _ hx)
    have : sumT bk (t :: l) = amt bk t + sumT bk l := by unfold sumT; rw [List.map_cons, List.sum_cons]
    rw [this, List.length_cons]
    omega
/-- The banks at the beginning. -/
def bank0 (n : Nat) (T : Nat → List C3) (i : Nat) : SV := newS 7 i n (T i)
theorem newP_ok {n : Nat} {T : Nat → List C3} (hn : 1 ≤ n ∧ n ≤ 8) {i : Nat} (hi : i < n) (ht : trB n (T i) = true) : newP 7 i n (T i) = (bank0 n T i, 0) := by
  unfold newP bank0
  rw [if_pos]
  refine svB_mk (by unfold newS; simp) (by unfold newS; dsimp only; omega) (by unfold newS; dsimp only; omega) ht (by unfold newS; simp) ?_
  unfold newS
  dsimp only
  split
  · rfl
  · simp
theorem bank0_sv {n : Nat} {T : Nat → List C3} (hn : 1 ≤ n ∧ n ≤ 8) {i : Nat} (hi : i < n) (ht : trB n (T i) = true) : svB (bank0 n T i) = true := by
  have := newP_ok hn hi ht
  unfold newP at this
  split at this
  · rename_i h; exact h
  · injection this with _ h; cases h
theorem start_inv {n : Nat} {T : Nat → List C3} {ok : Bool} (hn : 1 ≤ n ∧ n ≤ 8) (ht : ∀ i, i < n → trB n (T i) = true ∧ (T i).length ≤ 10) (hT : (∀ i, i < n → T i = T 0) ↔ ok = true) :
    (beginP (bank0 n T 0)).2.2 = 0 ∧ (beginP (bank0 n T 0)).2.1.length ≤ 8 ∧ Inv n T ok ⟨((List.range n).map (bank0 n T)).set 0 (beginP (bank0 n T 0)).1, (beginP (bank0 n T 0)).2.1⟩ := by
  have hsv := bank0_sv hn (i := 0) (by omega) (ht 0 (by omega)).1
  have hb : beginP (bank0 n T 0) = (⟨7, if (n : Int) = 1 then 4 else 1, ((0 : Nat) : Int), n, T 0, noneV n⟩, missF ((0 : Nat) : Int) 7 1 (bodyP (T 0)) 0 (noneV n), 0) := by
    unfold beginP
    rw [if_pos hsv, if_neg (by unfold bank0 newS; simp)]
    rfl
  rw [hb]
  have hnl : (noneV (n : Int)).length = n := noneV_len hn.1
  have hml := missF_length ((0 : Nat) : Int) 7 1 (bodyP (T 0)) (noneV n) 0
  rw [hnl] at hml
  have hl : ((List.range n).map (bank0 n T)).length = n := by rw [List.length_map, List.length_range]
  have hb0 : ∀ j, j < n → bank ⟨(List.range n).map (bank0 n T), []⟩ j = bank0 n T j := fun j hj => by
    unfold bank
    rw [List.getD_eq_getElem?_getD, List.getElem?_map, List.getElem?_range hj]
    rfl
  have hbs : ∀ (s : SV) (way : List MV), bank ⟨((List.range n).map (bank0 n T)).set 0 s, way⟩ 0 = s := fun s way => by rw [bank_set (way := []) (by rw [hl]; omega), if_pos rfl]
  have hbj : ∀ (s : SV) (way : List MV) j, 1 ≤ j → j < n → bank ⟨((List.range n).map (bank0 n T)).set 0 s, way⟩ j = bank0 n T j := fun s way j h1 hj => by rw [bank_set (way := []) (by rw [hl]; omega), if_neg (by omega), hb0 j hj]
  refine ⟨rfl, by dsimp only; omega, ⟨hn, by rw [List.length_set]; exact hl, ht, fun j hj => ?_, ?_, fun j h1 hj => ?_, ?_, fun j h1 hj => ?_, fun j h1 hj => ?_, fun j h1 hj => ?_, fun j h1 hj => ?_, fun j h1 hj => ?_, fun j h1 hj => ?_, fun e => ?_, fun m hm => ?_⟩⟩
  · by_cases h0 : j = 0
    · subst h0; rw [hbs]; exact ⟨rfl, rfl, rfl, rfl⟩
    · rw [hbj _ _ j (by omega) hj]; exact ⟨rfl, rfl, rfl, rfl⟩
  · rw [hbs]
    dsimp only
    by_cases h1 : n = 1
    · subst h1
      exact ⟨rfl, rfl, fun i hi => by have : i = 0 := by omega
                                      subst this; exact .inr rfl, by decide⟩
    · rw [if_neg (by omega)]; exact noneV_ok (by omega) (by omega)
  · rw [hbj _ _ j h1 hj]; rfl
  · rw [hbs]; dsimp only; split <;> omega
  · rw [hbj _ _ j h1 hj]; exact fun _ => .inl rfl
  · rw [hbs, hbj _ _ j h1 hj]; dsimp only; rw [if_neg (by omega)]; omega
  · rw [hbj _ _ j h1 hj]; exact fun _ => .inl rfl
  · rw [hbs, hbj _ _ j h1 hj]; intro e; have := noneV_one hn.1 hj e; omega
  · rw [hbs, hbj _ _ j h1 hj]; intro e; have := noneV_one hn.1 hj e; omega
  · rw [hbj _ _ j h1 hj]; unfold bank0 newS; dsimp only; omega
  · rw [hbs]
    refine ⟨hT.2 e, by dsimp only; split <;> omega, by dsimp only; split <;> omega, fun j h1 hj => ?_⟩
    rw [hbj _ _ j h1 hj]; unfold bank0 newS; dsimp only; omega
  · obtain ⟨j, h1, h2, rfl⟩ := missF_mem.1 hm
    have : j ≠ 0 := fun e => by subst e; cases h2
    rw [Nat.zero_add]
    exact .prep j (by omega) (by omega)
end Go.Proofs.Ytagmoecojmlogaa
namespace Go.Proofs.Ytagmoecojmlogaa
set_option maxRecDepth 20000
set_option linter.unusedSimpArgs false
set_option linter.unusedVariables false
open Go Go.Fw
attribute [local irreducible] CW OL OD FX Stp FnC FnV FnA FnM Ret
set_option maxHeartbeats 800000
theorem cloneBk_spec {w : World} {M : View} (hM : View.le M (View.of w)) {xs : List LS} {n : Nat} (e1 : xs.length = n) {a : Option Addr} {b o c : Nat} (s : SlA M LS.enc 6 a xs b o) (hl : xs.length ≤ 4294967296) :
    FnC Try.prog 55 [.slice a n c] w (RowRes LS.enc 6 25 xs) := by
  subst e1
  refine enterF (M := M) Try.func55 rfl rfl rfl rfl hM ?_
  refine cw_none 25 ?_
  repeat' first
    | apply cw_seq
    | (refine cw_region_id 0 ?_; (apply ol_as; rfl; rfl); (apply ol_nil))
    | (refine cw_region_id 1 ?_; (apply ol_mv; rfl; rfl); (apply ol_val; rfl; apply stp_cmp; apply s_eqnil; rfl; exact el_54; all_goals (intro _; try (exfalso; (first | (rename_i hh; exact hh rfl) | omega)))); all_goals (apply ol_nil))
    | (refine cw_region_id 2 ?_; (apply ol_as; rfl; rfl); (apply ol_nil))
    | (refine cw_region_id 3 ?_; (apply ol_val; rfl; apply s_buildSl; rfl; exact el_54; exact sz_25; exact zb_25; exact qN; rfl; rfl; (exact Nat.le_of_ble_eq_true rfl); exact qN; (focus ((repeat (first | exact Fil.nil | (apply Fil.one; rfl; rfl; (repeat (first | exact SetAt.zero | apply SetAt.succ))) | (apply Fil.agg; rfl; rfl; (repeat (first | exact SetN.nil | (apply SetN.cons; (repeat (first | exact SetAt.zero | apply SetAt.succ))))); (exact Nat.le_of_ble_eq_true rfl)))); done)); intro _); (apply ol_mv; rfl; rfl); (apply ol_val; rfl; first | (apply s_append_e; rfl; rfl; exact qN; exact el_54; exact sz_25; exact zb_25; rfl; exact by_25; (first | exact (fun _ => rfl) | (intro _; exact s.at_ (by omega))); (first | exact qQ | (apply RdN.view; exact SlA.all LS.enc_length s)); (first | rfl | exact ones_flat LS.ones _); exact qO; exact qO; intro _ _ _ _) | (apply s_append_r; rfl; rfl; exact qN; (first | rfl | exact (List.append_nil _).symm); exact el_54; exact sz_25; exact zb_25; rfl; exact by_25; (first | exact SO.nil _ | assumption | (exact ⟨by simp, by simp, Nat.le_refl _, by simp⟩)); (first | exact (fun _ => rfl) | (intro _; exact s.at_ (by omega))); (first | exact qQ | (apply RdN.view; exact SlA.all LS.enc_length s)); (first | rfl | exact ones_flat LS.ones _); exact qO; exact qO; intro _ _ _ _) | (apply s_append_b; rfl; rfl; exact qN; (first | rfl | exact (List.append_nil _).symm); exact el_54; exact sz_25; exact zb_25; rfl; exact by_25; (first | exact SO.nil _ | assumption | (exact ⟨by simp, by simp, Nat.le_refl _, by simp⟩)); (first | exact (fun _ => rfl) | (intro _; exact s.at_ (by omega))); (first | exact qQ | (apply RdN.view; exact SlA.all LS.enc_length s)); (first | rfl | exact ones_flat LS.ones _); exact qO; exact qO; intro _ _ _ _) | (apply s_append_n; rfl; rfl; exact qN; exact el_54; exact sz_25; exact zb_25; rfl; exact by_25; (first | exact (fun _ => rfl) | (intro _; exact s.at_ (by omega))); (first | exact qQ | (apply RdN.view; exact SlA.all LS.enc_length s)); (first | rfl | exact ones_flat LS.ones _); exact qO; exact qO; intro _ _ _ _)); (apply ol_as; rfl; rfl); (apply ol_nil))
    | (apply cw_cond_true; rfl; exact qA)
    | (apply cw_cond_false; rfl; exact qA)
    | apply cw_skip
    | apply cw_ret
    | apply cw_block
    | apply cw_exit
  · rename_i h
    have hx : xs = [] := by
      cases xs with
      | nil => rfl
      | cons x xs => have := s.at_ (by simp); rw [this] at h; cases h
    subst hx
    refine ends [⟨none, [], 25⟩] (by (repeat (first | exact RVal.nil | (apply RVal.tmp; rfl) | (apply RVal.cellN; rfl; rfl; (fail); apply RdN.own; (focus ((repeat (first | exact Has.here | apply Has.there)); done)); (focus ((repeat (first | exact GetN.nil | (apply GetN.cons; rfl))); done))) | (apply RVal.cell1; rfl; rfl; apply RdN.own; (focus ((repeat (first | exact Has.here | apply Has.there)); done)); exact qC)))) (by exact qK) ?_
    exact ⟨none, none, 0, [], rfl, rfl, SO.nil 6⟩
  · rename_i bb r sp cap so
    refine ends [⟨r, flat LS.enc xs ++ sp, 25⟩] (by (repeat (first | exact RVal.nil | (apply RVal.tmp; rfl) | (apply RVal.cellN; rfl; rfl; (fail); apply RdN.own; (focus ((repeat (first | exact Has.here | apply Has.there)); done)); (focus ((repeat (first | exact GetN.nil | (apply GetN.cons; rfl))); done))) | (apply RVal.cell1; rfl; rfl; apply RdN.own; (focus ((repeat (first | exact Has.here | apply Has.there)); done)); exact qC)))) (by exact qK) ?_
    exact ⟨r, none, cap, sp, rfl, rfl, so⟩
theorem eqTr_spec {w : World} {M : View} (hM : View.le M (View.of w)) {xs ys : List C3} {n1 n2 : Nat} (e1 : xs.length = n1) (e2 : ys.length = n2) {p : Bool} (hp : decide (xs = ys) = p) {a1 a2 : Option Addr} {b1 o1 c1 b2 o2 c2 : Nat} (s1 : SlA M C3.enc 3 a1 xs b1 o1) (s2 : SlA M C3.enc 3 a2 ys b2 o2) (hl : xs.length ≤ 4611686018427387904) :
    FnC Try.prog 28 [.slice a1 n1 c1, .slice a2 n2 c2] w (fun v _ => v = .bool p) := by
  subst e1 e2 hp
  refine enterF (M := M) Try.func28 rfl rfl rfl rfl hM ?_
  by_cases hlen : xs.length = ys.length
  · have hlen' : (xs.length : Int) = ys.length := by omega
    repeat' first
      | apply cw_seq
      | (refine cw_region_id 0 ?_; (apply ol_as; rfl; rfl); (apply ol_nil))
      | (refine cw_region_id 1 ?_; (apply ol_mv; rfl; rfl); (apply ol_val; rfl; apply stp_pur; apply s_len; rfl; exact el_22); (apply ol_mv; rfl; rfl); (apply ol_val; rfl; apply stp_pur; apply s_len; rfl; exact el_22); (apply ol_val; rfl; apply stp_cmp; apply s_neq; rfl; rfl; all_goals (intro _; try (exfalso; (first | (rename_i hh; exact hh rfl) | omega)))); all_goals (apply ol_nil))
      | (refine cw_region_id 2 ?_; (apply ol_as; rfl; rfl); (apply ol_nil))
      | (refine cw_region_id 3 ?_; (apply ol_mv; rfl; rfl); (apply ol_val; rfl; apply stp_pur; apply s_len; rfl; exact el_22); (apply ol_mv; rfl; rfl); (apply ol_nil))
      | (apply cw_cond_true; rfl; exact qA)
      | (apply cw_cond_false; rfl; exact qA)
      | apply cw_skip
      | apply cw_ret
      | apply cw_block
      | apply cw_exit
    refine cw_loopK (σ := Nat) [0, 1, 12] (by (repeat (first | exact Keep.nil | (apply Keep.cons; rfl)))) (fun k => [(13, .int .i64 k)]) (fun _ => M) (fun _ => []) (fun k => k ≤ xs.length ∧ xs.take k = ys.take k) (fun k => xs.length - k) 0 (by (repeat (first | exact trivial | refine And.intro rfl ?_))) (View.le.refl _) Pick.nil ⟨by omega, by simp⟩ ?_
    intro k ⟨hk, ht⟩
    repeat' first
      | apply cw_seq
      | (refine cw_region_id 4 ?_; (apply ol_val; rfl; apply stp_cmp; apply s_lss; rfl; rfl; all_goals (intro _; try (exfalso; (first | (rename_i hh; exact hh rfl) | omega)))); all_goals (apply ol_nil))
      | (refine cw_region_id 5 ?_; (apply ol_mv; rfl; rfl); (apply ol_as; rfl; rfl); (apply ol_nil))
      | (refine cw_draw (id := 6) 9 (.mv 0 (.mv 1 (.mv 2 (.mv 3 (.mv 4 (.mv 5 (.mv 6 (.mv 7 (.mv 8 (PT.nil)))))))))) mixed (by kernel_rfl) ?_; (apply od_mv; rfl; rfl; apply s_move; rfl); (apply od_mv; rfl; rfl; apply s_move; rfl); (apply od_mv; rfl; rfl; first | (apply s_indexK; rfl; rfl; exact el_22; exact sz_61; (first | rfl | exact s1.at_ (by omega) | exact s2.at_ (by omega)); omega) | (apply s_indexO; rfl; rfl; exact el_22; exact sz_61; (first | rfl | exact s1.at_ (by omega) | exact s2.at_ (by omega)); omega)); (apply od_mv; rfl; rfl; apply s_loadN; rfl; rfl; exact sz_61; (first | exact qQ | (apply RdN.view; exact s1.cells _ (by omega)) | (apply RdN.view; exact s2.cells _ (by omega)))); (apply od_mv; rfl; rfl; apply s_move; rfl); (apply od_mv; rfl; rfl; apply s_move; rfl); (apply od_mv; rfl; rfl; first | (apply s_indexK; rfl; rfl; exact el_22; exact sz_61; (first | rfl | exact s1.at_ (by omega) | exact s2.at_ (by omega)); omega) | (apply s_indexO; rfl; rfl; exact el_22; exact sz_61; (first | rfl | exact s1.at_ (by omega) | exact s2.at_ (by omega)); omega)); (apply od_mv; rfl; rfl; apply s_loadN; rfl; rfl; exact sz_61; (first | exact qQ | (apply RdN.view; exact s1.cells _ (by omega)) | (apply RdN.view; exact s2.cells _ (by omega)))); (apply od_cmp; rfl; rfl; apply s_neqS; rfl; rfl; exact is_61; exact C3.enc_row _; exact C3.enc_row _; rfl; rfl; all_goals (intro _; try (exfalso; (first | (rename_i hh; exact hh rfl) | omega)))); all_goals (apply od_nil; (first | exact Wk.refl _ _ | exact qW)); all_goals (apply ol_nil))
      | (refine cw_region_id 7 ?_; (apply ol_as; rfl; rfl); (apply ol_nil))
      | (refine cw_region_id 8 ?_; (apply ol_val; rfl; apply stp_pur; apply s_add64; rfl; rfl; omega); (apply ol_mv; rfl; rfl); (apply ol_nil))
      | (refine cw_region_id 9 ?_; (apply ol_as; rfl; rfl); (apply ol_nil))
      | (apply cw_cond_true; rfl; exact qA)
      | (apply cw_cond_false; rfl; exact qA)
      | apply cw_skip
      | apply cw_ret
      | apply cw_block
      | apply cw_exit
    · refine ends [] (RVal.tmp rfl RVal.nil) Pick.nil ?_
      rename_i h1 h2
      have : xs ≠ ys := fun e => h2 (by subst e; rfl)
      simp [tup, this]
    · rename_i h1 h2
      have hk' : k < xs.length := by omega
      refine ⟨k + 1, ⟨by (repeat (first | exact trivial | refine And.intro rfl ?_)), View.le.refl _, Pick.nil, ⟨by omega, ?_⟩, by omega⟩⟩
      rw [List.take_succ_eq_append_getElem hk', List.take_succ_eq_append_getElem (by omega : k < ys.length), ht]
      congr 2
      exact C3.row_inj (Decidable.not_not.1 h2)
    · refine ends [] (RVal.tmp rfl RVal.nil) Pick.nil ?_
      have e : k = xs.length := by omega
      subst e
      rw [List.take_length, hlen, List.take_length] at ht
      simp [tup, ht]
  · have hlen' : ¬ (xs.length : Int) = ys.length := by omega
    repeat' first
      | apply cw_seq
      | (refine cw_region_id 0 ?_; (apply ol_as; rfl; rfl); (apply ol_nil))
      | (refine cw_region_id 1 ?_; (apply ol_mv; rfl; rfl); (apply ol_val; rfl; apply stp_pur; apply s_len; rfl; exact el_22); (apply ol_mv; rfl; rfl); (apply ol_val; rfl; apply stp_pur; apply s_len; rfl; exact el_22); (apply ol_val; rfl; apply stp_cmp; apply s_neq; rfl; rfl; all_goals (intro _; try (exfalso; (first | (rename_i hh; exact hh rfl) | omega)))); all_goals (apply ol_nil))
      | (refine cw_region_id 2 ?_; (apply ol_as; rfl; rfl); (apply ol_nil))
      | (refine cw_region_id 3 ?_; (apply ol_mv; rfl; rfl); (apply ol_val; rfl; apply stp_pur; apply s_len; rfl; exact el_22); (apply ol_mv; rfl; rfl); (apply ol_nil))
      | (apply cw_cond_true; rfl; exact qA)
      | (apply cw_cond_false; rfl; exact qA)
      | apply cw_skip
      | apply cw_ret
      | apply cw_block
      | apply cw_exit
    refine ends [] (RVal.tmp rfl RVal.nil) Pick.nil ?_
    have : xs ≠ ys := fun e => hlen (by rw [e])
    simp [tup, this]
theorem catMsGrow_spec {w : World} {n : Nat} (hn : n ≤ 1073741824) :
    FnC Try.prog 74 [.slice none 0 0, .int .i64 (n : Nat)] w (fun v new => ∃ r cap sp, v = .slice (base r none) 0 cap ∧ new = [⟨r, sp, 28⟩] ∧ SO r 0 cap [] sp 5) := by
  refine enterF (M := View.of w) Try.func74 rfl rfl rfl rfl (View.le.refl _) ?_
  refine cw_none 28 ?_
  by_cases h0 : n = 0
  · subst h0
    repeat' first
      | apply cw_seq
      | (refine cw_region_id 0 ?_; (apply ol_as; rfl; rfl); (apply ol_nil))
      | (refine cw_region_id 1 ?_; (apply ol_mv; rfl; rfl); (apply ol_val; rfl; apply stp_cmp; apply s_lss; rfl; rfl; all_goals (intro hc6; try (exfalso; (first | exact hc6 rfl | omega)))); all_goals (apply ol_nil))
      | (refine cw_region_id 2 ?_)
      | (refine cw_region_id 3 ?_; (apply ol_mv; rfl; rfl); (apply ol_mv; rfl; rfl); (apply ol_val; rfl; apply stp_pur; apply s_cap; rfl; exact el_31); (apply ol_mv; rfl; rfl); (apply ol_val; rfl; apply stp_pur; apply s_len; rfl; exact el_31); (apply ol_val; rfl; apply stp_pur; apply s_sub64; rfl; rfl; omega); (apply ol_val; rfl; apply stp_pur; apply s_sub64; rfl; rfl; omega); (apply ol_as; rfl; rfl); (apply ol_nil))
      | (refine cw_region_id 4 ?_; (apply ol_mv; rfl; rfl); (apply ol_val; rfl; apply stp_cmp; apply s_gtr; rfl; rfl; all_goals (intro hc16; try (exfalso; (first | exact hc16 rfl | omega)))); all_goals (apply ol_nil))
      | (refine cw_region_id 5 ?_; (apply ol_mv; rfl; rfl); (apply ol_mv; rfl; rfl); (apply ol_val; rfl; apply stp_pur; apply s_cap; rfl; exact el_31); (apply ol_val; rfl; apply stp_pur; apply s_slice; rfl; exact el_31; exact sz_28; rfl; exact Exists.intro _ rfl; rfl; (intro h; first | rfl | cases h); exact qO; exact qO; exact qO); (apply ol_mv; rfl; rfl); (apply ol_val; rfl; apply s_appendZ; rfl; rfl; exact qN; exact el_31; exact ti_3; exact sz_28; exact zb_28; rfl; exact by_28; rfl; omega; omega; omega; intro bk22 sk22 ck22 zk22 lk22); (apply ol_mv; rfl; rfl); (apply ol_val; rfl; apply stp_pur; apply s_len; rfl; exact el_31); (apply ol_val; rfl; apply stp_pur; apply s_slice; rfl; exact el_31; exact sz_28; rfl; exact Exists.intro _ rfl; rfl; (intro h; first | rfl | cases h); exact qO; exact qO; exact qO); (apply ol_as; rfl; rfl); (apply ol_nil))
      | (refine cw_region_id 6 ?_; (apply ol_mv; rfl; rfl); (apply ol_as; rfl; rfl); (apply ol_nil))
      | (apply cw_cond_true; rfl; exact qA)
      | (apply cw_cond_false; rfl; exact qA)
      | apply cw_skip
      | apply cw_ret
      | apply cw_block
      | apply cw_exit
    refine ends [⟨none, [], 28⟩] (RVal.tmp rfl RVal.nil) (by exact qK) ?_
    exact ⟨none, 0, [], rfl, rfl, SO.nil 5⟩
  ·
    repeat' first
      | apply cw_seq
      | (refine cw_region_id 0 ?_; (apply ol_as; rfl; rfl); (apply ol_nil))
      | (refine cw_region_id 1 ?_; (apply ol_mv; rfl; rfl); (apply ol_val; rfl; apply stp_cmp; apply s_lss; rfl; rfl; all_goals (intro hc6; try (exfalso; (first | exact hc6 rfl | omega)))); all_goals (apply ol_nil))
      | (refine cw_region_id 2 ?_)
      | (refine cw_region_id 3 ?_; (apply ol_mv; rfl; rfl); (apply ol_mv; rfl; rfl); (apply ol_val; rfl; apply stp_pur; apply s_cap; rfl; exact el_31); (apply ol_mv; rfl; rfl); (apply ol_val; rfl; apply stp_pur; apply s_len; rfl; exact el_31); (apply ol_val; rfl; apply stp_pur; apply s_sub64; rfl; rfl; omega); (apply ol_val; rfl; apply stp_pur; apply s_sub64; rfl; rfl; omega); (apply ol_as; rfl; rfl); (apply ol_nil))
      | (refine cw_region_id 4 ?_; (apply ol_mv; rfl; rfl); (apply ol_val; rfl; apply stp_cmp; apply s_gtr; rfl; rfl; all_goals (intro hc16; try (exfalso; (first | exact hc16 rfl | omega)))); all_goals (apply ol_nil))
      | (refine cw_region_id 5 ?_; (apply ol_mv; rfl; rfl); (apply ol_mv; rfl; rfl); (apply ol_val; rfl; apply stp_pur; apply s_cap; rfl; exact el_31); (apply ol_val; rfl; apply stp_pur; apply s_slice; rfl; exact el_31; exact sz_28; rfl; exact Exists.intro _ rfl; rfl; (intro h; first | rfl | cases h); exact qO; exact qO; exact qO); (apply ol_mv; rfl; rfl); (apply ol_val; rfl; apply s_appendZ (m := n); rfl; (refine congrArg some (congrArg (Value.int .i64) ?_); omega); exact qN; exact el_31; exact ti_3; exact sz_28; exact zb_28; rfl; exact by_28; rfl; omega; omega; omega; intro bk22 sk22 ck22 zk22 lk22); (apply ol_mv; rfl; rfl); (apply ol_val; rfl; apply stp_pur; apply s_len; rfl; exact el_31); (apply ol_val; rfl; apply stp_pur; apply s_slice; rfl; exact el_31; exact sz_28; rfl; exact Exists.intro _ rfl; rfl; (intro h; first | rfl | cases h); exact qO; exact qO; exact qO); (apply ol_as; rfl; rfl); (apply ol_nil))
      | (refine cw_region_id 6 ?_; (apply ol_mv; rfl; rfl); (apply ol_as; rfl; rfl); (apply ol_nil))
      | (apply cw_cond_true; rfl; exact qA)
      | (apply cw_cond_false; rfl; exact qA)
      | apply cw_skip
      | apply cw_ret
      | apply cw_block
      | apply cw_exit
    refine ends [⟨some bk22, sk22, 28⟩] (RVal.tmp rfl RVal.nil) (by exact qK) ?_
    refine ⟨some bk22, ck22, sk22, ?_, rfl, ⟨by simp, by simpa using lk22, by omega, by simp⟩⟩
    simp [tup, slicedA_zero, base]
structure catMsSt where
  k : Nat
  r : Option Nat
  A : Option Addr
  c : Nat
  sp : List Value
theorem catMs_spec {M : View} {w : World} (hM : View.le M (View.of w)) {L : List (Sl LM)} {n : Nat} (hn : L.length = n) {A : Option Addr} {b o c : Nat} (s : SlA M Sl.enc 1 A L b o) (hs : ∀ x ∈ L, SlA M LM.enc 5 x.a x.xs x.b x.o) (hl : catLen L ≤ 1073741824) (hL : L.length ≤ 1073741824) :
    FnC Try.prog 56 [.slice A n c] w (RowRes LM.enc 5 28 (catAll L)) := by
  subst hn
  refine enterF (M := M) Try.func56 rfl rfl rfl rfl hM ?_
  repeat' first
    | apply cw_seq
    | (refine cw_region_id 0 ?_; (apply ol_as; rfl; rfl); (apply ol_nil))
    | (refine cw_region_id 1 ?_; (apply ol_as; rfl; rfl); (apply ol_nil))
    | (refine cw_region_id 2 ?_; (apply ol_mv; rfl; rfl); (apply ol_val; rfl; apply stp_pur; apply s_len; rfl; exact el_109); (apply ol_mv; rfl; rfl); (apply ol_nil))
    | (apply cw_cond_true; rfl; exact qA)
    | (apply cw_cond_false; rfl; exact qA)
    | apply cw_skip
    | apply cw_ret
    | apply cw_block
    | apply cw_exit
  refine cw_loopK (σ := Nat) [0, 9, 10] (by (repeat (first | exact Keep.nil | (apply Keep.cons; rfl)))) (fun k => [(3, .int .i64 (catLen (L.take k))), (11, .int .i64 k)]) (fun _ => M) (fun _ => []) (fun k => k ≤ L.length) (fun k => L.length - k) 0 (by (repeat (first | exact trivial | refine And.intro rfl ?_))) (View.le.refl _) (by exact qK) (by omega) ?_
  intro k hk
  have hc := catLen_take L k
  by_cases hk' : k < L.length
  · have hc' := catLen_take L (k + 1)
    have hst : catLen (L.take (k + 1)) = catLen (L.take k) + L[k].xs.length := by rw [List.take_succ_eq_append_getElem hk', catLen_snoc]
    repeat' first
      | apply cw_seq
      | (refine cw_region_id 3 ?_; (apply ol_val; rfl; apply stp_cmp; apply s_lss; rfl; rfl; all_goals (intro hc12; try (exfalso; (first | exact hc12 rfl | omega)))); all_goals (apply ol_nil))
      | (refine cw_region_id 4 ?_; (apply ol_val; rfl; apply stp_pur; first | (apply s_indexK; rfl; rfl; exact el_109; exact sz_31; (first | rfl | exact s.at_ (by omega)); omega) | (apply s_indexO; rfl; rfl; exact el_109; exact sz_31; (first | rfl | exact s.at_ (by omega)); omega)); (apply ol_ld; rfl; rfl; rfl; (first | exact qP | (apply RdN.view; exact s.cells k hk'))); (apply ol_as; rfl; rfl); (apply ol_nil))
      | (refine cw_region_id 5 ?_; (apply ol_mv; rfl; rfl); (apply ol_mv; rfl; rfl); (apply ol_val; rfl; apply stp_pur; apply s_len; rfl; exact el_31); (apply ol_val; rfl; apply stp_pur; apply s_add64; rfl; rfl; omega); (apply ol_as; rfl; rfl); (apply ol_nil))
      | (refine cw_region_id 6 ?_; (apply ol_mv; rfl; rfl); (apply ol_val; rfl; apply stp_cmp; apply s_lss; rfl; rfl; all_goals (intro hc20; try (exfalso; (first | exact hc20 rfl | omega)))); all_goals (apply ol_nil))
      | (refine cw_region_id 7 ?_)
      | (refine cw_region_id 8 ?_; (apply ol_val; rfl; apply stp_pur; apply s_add64; rfl; rfl; omega); (apply ol_mv; rfl; rfl); (apply ol_nil))
      | (refine cw_region_id 9 ?_; (apply ol_mv; rfl; rfl))
      | (refine cw_region_id 10 ?_; (apply ol_mv; rfl; rfl); (apply ol_val; rfl; apply stp_pur; apply s_len; rfl; exact el_109); (apply ol_mv; rfl; rfl); (apply ol_nil))
      | (apply cw_cond_true; rfl; exact qA)
      | (apply cw_cond_false; rfl; exact qA)
      | apply cw_skip
      | apply cw_ret
      | apply cw_block
      | apply cw_exit
    refine ⟨k + 1, ⟨?_, View.le.refl _, by exact qK, hk', by omega⟩⟩
    rw [hst]
    (repeat (first | exact trivial | refine And.intro rfl ?_))
  · have : k = L.length := by omega
    subst this
    rw [List.take_length]
    repeat' first
      | apply cw_seq
      | (refine cw_region_id 3 ?_; (apply ol_val; rfl; apply stp_cmp; apply s_lss; rfl; rfl; all_goals (intro hc12; try (exfalso; (first | exact hc12 rfl | omega)))); all_goals (apply ol_nil))
      | (refine cw_region_id 4 ?_; (apply ol_val; rfl; apply stp_pur; first | (apply s_indexK; rfl; rfl; exact el_109; exact sz_31; (first | rfl); omega) | (apply s_indexO; rfl; rfl; exact el_109; exact sz_31; (first | rfl); omega)); (apply ol_ld; rfl; rfl; rfl; exact qP); (apply ol_as; rfl; rfl); (apply ol_nil))
      | (refine cw_region_id 5 ?_; (apply ol_mv; rfl; rfl); (apply ol_mv; rfl; rfl); (apply ol_val; rfl; apply stp_pur; apply s_len; rfl; exact el_31); (apply ol_val; rfl; apply stp_pur; apply s_add64; rfl; rfl; omega); (apply ol_as; rfl; rfl); (apply ol_nil))
      | (refine cw_region_id 6 ?_; (apply ol_mv; rfl; rfl); (apply ol_val; rfl; apply stp_cmp; apply s_lss; rfl; rfl; all_goals (intro hc20; try (exfalso; (first | exact hc20 rfl | omega)))); all_goals (apply ol_nil))
      | (refine cw_region_id 7 ?_)
      | (refine cw_region_id 8 ?_; (apply ol_val; rfl; apply stp_pur; apply s_add64; rfl; rfl; omega); (apply ol_mv; rfl; rfl); (apply ol_nil))
      | (refine cw_region_id 9 ?_; (apply ol_mv; rfl; rfl); (apply ol_val; rfl; apply s_call; rfl; exact gf_74; (intro w' hw'; exact catMsGrow_spec hl); ((intro v new h; obtain ⟨r, cap, sp, rfl, rfl, so⟩ := h))); (apply ol_as; rfl; rfl); (apply ol_nil))
      | (refine cw_region_id 10 ?_; (apply ol_mv; rfl; rfl); (apply ol_val; rfl; apply stp_pur; apply s_len; rfl; exact el_109); (apply ol_mv; rfl; rfl); (apply ol_nil))
      | (apply cw_cond_true; rfl; exact qA)
      | (apply cw_cond_false; rfl; exact qA)
      | apply cw_skip
      | apply cw_ret
      | apply cw_block
      | apply cw_exit
    refine cw_loopK (σ := catMsSt) [25, 26] (by (repeat (first | exact Keep.nil | (apply Keep.cons; rfl)))) (fun s => [(6, .slice (base s.r s.A) (catLen (L.take s.k)) s.c), (27, .int .i64 s.k)]) (fun _ => M) (fun s => [⟨s.r, flat LM.enc (catAll (L.take s.k)) ++ s.sp, 28⟩]) (fun s => s.k ≤ L.length ∧ SO s.r (catLen (L.take s.k)) s.c (flat LM.enc (catAll (L.take s.k))) s.sp 5) (fun s => L.length - s.k) ⟨0, r, none, cap, sp⟩ (by (repeat (first | exact trivial | refine And.intro rfl ?_))) (View.le.refl _) (by exact qK) ⟨by dsimp only; omega, so⟩ ?_
    rintro ⟨k, r, A', c', sp⟩ ⟨hk, so⟩
    dsimp only at hk so
    dsimp only
    have hc := catLen_take L k
    by_cases hk' : k < L.length
    · have hc' := catLen_take L (k + 1)
      have hst : catLen (L.take (k + 1)) = catLen (L.take k) + L[k].xs.length := by rw [List.take_succ_eq_append_getElem hk', catLen_snoc]
      have hst2 : catAll (L.take (k + 1)) = catAll (L.take k) ++ L[k].xs := by rw [List.take_succ_eq_append_getElem hk', catAll_snoc]
      have sx := hs L[k] (List.getElem_mem _)
      have hset := s.cells k hk'
      generalize L[k] = x at *
      repeat' first
        | apply cw_seq
        | (refine cw_region_id 11 ?_; (apply ol_val; rfl; apply stp_cmp; apply s_lss; rfl; rfl; all_goals (intro hc28; try (exfalso; (first | exact hc28 rfl | omega)))); all_goals (apply ol_nil))
        | (refine cw_region_id 12 ?_; (apply ol_val; rfl; apply stp_pur; first | (apply s_indexK; rfl; rfl; exact el_109; exact sz_31; (first | rfl | exact s.at_ (by omega) | exact sx.at_ (by omega)); omega) | (apply s_indexO; rfl; rfl; exact el_109; exact sz_31; (first | rfl | exact s.at_ (by omega) | exact sx.at_ (by omega)); omega)); (apply ol_ld; rfl; rfl; rfl; (first | exact qP | (apply RdN.view; exact hset))); (apply ol_as; rfl; rfl); (apply ol_nil))
        | (refine cw_region_id 13 ?_; (apply ol_mv; rfl; rfl); (apply ol_mv; rfl; rfl); (apply ol_val; rfl; first | (apply s_append_e; rfl; rfl; exact qN; exact el_31; exact sz_28; exact zb_28; rfl; exact by_28; (first | exact (fun _ => rfl) | (intro _; exact s.at_ (by omega)) | (intro _; exact sx.at_ (by omega))); (first | exact qQ | (apply RdN.view; exact SlA.all LM.enc_length sx)); (first | rfl | exact ones_flat LM.ones _); exact qO; exact qO; intro rk33 sk33 ck33 ok33) | (apply s_append_r; rfl; rfl; exact qN; (first | rfl | exact (List.append_nil _).symm); exact el_31; exact sz_28; exact zb_28; rfl; exact by_28; (first | exact SO.nil _ | assumption | (exact ⟨by simp, by simp, Nat.le_refl _, by simp⟩)); (first | exact (fun _ => rfl) | (intro _; exact s.at_ (by omega)) | (intro _; exact sx.at_ (by omega))); (first | exact qQ | (apply RdN.view; exact SlA.all LM.enc_length sx)); (first | rfl | exact ones_flat LM.ones _); exact qO; exact qO; intro rk33 sk33 ck33 ok33) | (apply s_append_b; rfl; rfl; exact qN; (first | rfl | exact (List.append_nil _).symm); exact el_31; exact sz_28; exact zb_28; rfl; exact by_28; (first | exact SO.nil _ | assumption | (exact ⟨by simp, by simp, Nat.le_refl _, by simp⟩)); (first | exact (fun _ => rfl) | (intro _; exact s.at_ (by omega)) | (intro _; exact sx.at_ (by omega))); (first | exact qQ | (apply RdN.view; exact SlA.all LM.enc_length sx)); (first | rfl | exact ones_flat LM.ones _); exact qO; exact qO; intro rk33 sk33 ck33 ok33) | (apply s_append_n; rfl; rfl; exact qN; exact el_31; exact sz_28; exact zb_28; rfl; exact by_28; (first | exact (fun _ => rfl) | (intro _; exact s.at_ (by omega)) | (intro _; exact sx.at_ (by omega))); (first | exact qQ | (apply RdN.view; exact SlA.all LM.enc_length sx)); (first | rfl | exact ones_flat LM.ones _); exact qO; exact qO; intro rk33 sk33 ck33 ok33)); (apply ol_as; rfl; rfl); (apply ol_nil))
        | (refine cw_region_id 14 ?_; (apply ol_val; rfl; apply stp_pur; apply s_add64; rfl; rfl; omega); (apply ol_mv; rfl; rfl); (apply ol_nil))
        | (refine cw_region_id 15 ?_; (apply ol_mv; rfl; rfl); (apply ol_as; rfl; rfl); (apply ol_nil))
        | (apply cw_cond_true; rfl; exact qA)
        | (apply cw_cond_false; rfl; exact qA)
        | apply cw_skip
        | apply cw_ret
        | apply cw_block
        | apply cw_exit
      refine ⟨⟨k + 1, rk33, A', ck33, sk33⟩, ⟨?_, View.le.refl _, ?_, ⟨hk', ?_⟩, by dsimp only; omega⟩⟩
      · dsimp only; rw [hst]; (repeat (first | exact trivial | refine And.intro rfl ?_))
      · dsimp only; rw [hst2, flat_append]; exact qK
      · dsimp only; rw [hst, hst2, flat_append]; exact ok33
    · have : k = L.length := by omega
      subst this
      rw [List.take_length] at so ⊢
      repeat' first
        | apply cw_seq
        | (refine cw_region_id 11 ?_; (apply ol_val; rfl; apply stp_cmp; apply s_lss; rfl; rfl; all_goals (intro hc28; try (exfalso; (first | exact hc28 rfl | omega)))); all_goals (apply ol_nil))
        | (refine cw_region_id 12 ?_; (apply ol_val; rfl; apply stp_pur; first | (apply s_indexK; rfl; rfl; exact el_109; exact sz_31; (first | rfl); omega) | (apply s_indexO; rfl; rfl; exact el_109; exact sz_31; (first | rfl); omega)); (apply ol_ld; rfl; rfl; rfl; exact qP); (apply ol_as; rfl; rfl); (apply ol_nil))
        | (refine cw_region_id 13 ?_; (apply ol_mv; rfl; rfl); (apply ol_mv; rfl; rfl); (apply ol_val; rfl; first | (apply s_append_e; rfl; rfl; exact qN; exact el_31; exact sz_28; exact zb_28; rfl; exact by_28; (first | exact (fun _ => rfl)); (first | exact qQ); (first | rfl); exact qO; exact qO; intro rk33 sk33 ck33 ok33) | (apply s_append_r; rfl; rfl; exact qN; (first | rfl | exact (List.append_nil _).symm); exact el_31; exact sz_28; exact zb_28; rfl; exact by_28; (first | exact SO.nil _ | assumption | (exact ⟨by simp, by simp, Nat.le_refl _, by simp⟩)); (first | exact (fun _ => rfl)); (first | exact qQ); (first | rfl); exact qO; exact qO; intro rk33 sk33 ck33 ok33) | (apply s_append_b; rfl; rfl; exact qN; (first | rfl | exact (List.append_nil _).symm); exact el_31; exact sz_28; exact zb_28; rfl; exact by_28; (first | exact SO.nil _ | assumption | (exact ⟨by simp, by simp, Nat.le_refl _, by simp⟩)); (first | exact (fun _ => rfl)); (first | exact qQ); (first | rfl); exact qO; exact qO; intro rk33 sk33 ck33 ok33) | (apply s_append_n; rfl; rfl; exact qN; exact el_31; exact sz_28; exact zb_28; rfl; exact by_28; (first | exact (fun _ => rfl)); (first | exact qQ); (first | rfl); exact qO; exact qO; intro rk33 sk33 ck33 ok33)); (apply ol_as; rfl; rfl); (apply ol_nil))
        | (refine cw_region_id 14 ?_; (apply ol_val; rfl; apply stp_pur; apply s_add64; rfl; rfl; omega); (apply ol_mv; rfl; rfl); (apply ol_nil))
        | (refine cw_region_id 15 ?_; (apply ol_mv; rfl; rfl); (apply ol_as; rfl; rfl); (apply ol_nil))
        | (apply cw_cond_true; rfl; exact qA)
        | (apply cw_cond_false; rfl; exact qA)
        | apply cw_skip
        | apply cw_ret
        | apply cw_block
        | apply cw_exit
      refine ends [⟨r, flat LM.enc (catAll L) ++ sp, 28⟩] (RVal.tmp rfl RVal.nil) (by exact qK) ?_
      refine ⟨r, A', c', sp, ?_, rfl, ?_⟩
      · rw [catAll_length]; rfl
      · rw [catAll_length]; exact so
theorem rvalid_new {M : View} {w : World} (hM : View.le M (View.of w)) {bn : Int} (hb : 1 ≤ bn ∧ bn ≤ 8) {l : List C3} {n c vc : Nat} {va : Option Addr} (hn : l.length = n) {a : Option Addr} {b o : Nat} (s : SlA M C3.enc 3 a l b o) :
    FnC Try.prog 25 [.agg [.int .i64 7, .int .i64 0, .int .i64 0, .int .i64 bn, .slice a n c, .slice va 0 vc].toArray] w (fun v _ => v = .bool (trB bn l)) := by
  subst hn
  have k1 := fun (w' : World) => between_spec w' 7 0 1073741824
  have k2 := fun (w' : World) => between_spec w' bn 1 8
  have k3 := fun (w' : World) => between_spec w' 0 0 (bn - 1)
  have k4 := fun (w' : World) => between_spec w' 0 0 5
  rw [inn_iff.2 (by omega)] at k1 k2 k3 k4
  have kt := fun (w' : World) (h : View.le M (View.of w')) => rtransfers_spec h hb rfl (c := c) s
  refine enterF (M := M) Try.func25 rfl rfl rfl rfl hM ?_
  cases ht : trB bn l with
  | false =>
    rw [ht] at kt
    repeat' first
      | apply cw_seq
      | (refine cw_region_id 0 ?_; (apply ol_val; rfl; first | (apply s_boxN; rfl; intro bk1) | (apply s_box1; rfl; rfl; intro bk1)); (apply ol_as; rfl; rfl); (apply ol_nil))
      | (refine cw_region_id 1 ?_; (apply ol_fa; rfl; rfl; exact fd_25_0; exact qZ); (apply ol_ld; rfl; rfl; rfl; exact qP); (apply ol_val; rfl; apply s_callv; rfl; exact gf_53; (intro w' hw'; first | exact k1 w' | exact k2 w' | exact k3 w' | exact k4 w')); (apply ol_val; rfl; apply stp_pur; first | (apply s_not_t; rfl; exact qA) | (apply s_not_f; rfl; exact qA) | (apply s_not; rfl)); (apply ol_mv; rfl; rfl); (first | (apply ol_gskip; rfl; rfl; exact qA; rfl) | (apply ol_gval; rfl; rfl; rfl; exact qA; apply stp_pur; apply s_fieldAddr'; rfl; exact fd_25_3; exact qZ)); (first | (apply ol_gskip; rfl; rfl; exact qA; rfl) | (apply ol_gval; rfl; rfl; rfl; exact qA; apply stp_pur; apply s_load1; rfl; rfl; exact qP)); (first | (apply ol_gskip; rfl; rfl; exact qA; rfl) | (apply ol_gval; rfl; rfl; rfl; exact qA; apply s_callv; rfl; exact gf_53; (intro w' hw'; first | exact k1 w' | exact k2 w' | exact k3 w' | exact k4 w'))); (first | (apply ol_gskip; rfl; rfl; exact qA; rfl) | (apply ol_gval; rfl; rfl; rfl; exact qA; apply stp_pur; first | (apply s_not_t; rfl; exact qA) | (apply s_not_f; rfl; exact qA) | (apply s_not; rfl))); (apply ol_val; rfl; apply stp_pur; first | (apply s_pick_t; rfl; exact qA; rfl) | (apply s_pick_f; rfl; exact qA; rfl)); (apply ol_mv; rfl; rfl); (first | (apply ol_gskip; rfl; rfl; exact qA; rfl) | (apply ol_gval; rfl; rfl; rfl; exact qA; apply stp_pur; apply s_fieldAddr'; rfl; exact fd_25_2; exact qZ)); (first | (apply ol_gskip; rfl; rfl; exact qA; rfl) | (apply ol_gval; rfl; rfl; rfl; exact qA; apply stp_pur; apply s_load1; rfl; rfl; exact qP)); (first | (apply ol_gskip; rfl; rfl; exact qA; rfl) | (apply ol_gval; rfl; rfl; rfl; exact qA; apply stp_pur; apply s_fieldAddr'; rfl; exact fd_25_3; exact qZ)); (first | (apply ol_gskip; rfl; rfl; exact qA; rfl) | (apply ol_gval; rfl; rfl; rfl; exact qA; apply stp_pur; apply s_load1; rfl; rfl; exact qP)); (first | (apply ol_gskip; rfl; rfl; exact qA; rfl) | (apply ol_gval; rfl; rfl; rfl; exact qA; apply stp_pur; apply s_sub64; rfl; rfl; omega)); (first | (apply ol_gskip; rfl; rfl; exact qA; rfl) | (apply ol_gval; rfl; rfl; rfl; exact qA; apply s_callv; rfl; exact gf_53; (intro w' hw'; first | exact k1 w' | exact k2 w' | exact k3 w' | exact k4 w'))); (first | (apply ol_gskip; rfl; rfl; exact qA; rfl) | (apply ol_gval; rfl; rfl; rfl; exact qA; apply stp_pur; first | (apply s_not_t; rfl; exact qA) | (apply s_not_f; rfl; exact qA) | (apply s_not; rfl))); (apply ol_val; rfl; apply stp_pur; first | (apply s_pick_t; rfl; exact qA; rfl) | (apply s_pick_f; rfl; exact qA; rfl)); (apply ol_mv; rfl; rfl); (first | (apply ol_gskip; rfl; rfl; exact qA; rfl) | (apply ol_gval; rfl; rfl; rfl; exact qA; apply stp_pur; apply s_fieldAddr'; rfl; exact fd_25_4; exact qZ)); (first | (apply ol_gskip; rfl; rfl; exact qA; rfl) | (apply ol_gval; rfl; rfl; rfl; exact qA; apply stp_pur; apply s_load1; rfl; rfl; exact qP)); (first | (apply ol_gskip; rfl; rfl; exact qA; rfl) | (apply ol_gval; rfl; rfl; rfl; exact qA; apply stp_pur; apply s_fieldAddr'; rfl; exact fd_25_3; exact qZ)); (first | (apply ol_gskip; rfl; rfl; exact qA; rfl) | (apply ol_gval; rfl; rfl; rfl; exact qA; apply stp_pur; apply s_load1; rfl; rfl; exact qP)); (first | (apply ol_gskip; rfl; rfl; exact qA; rfl) | (apply ol_gval; rfl; rfl; rfl; exact qA; apply s_callv; rfl; exact gf_54; (intro w' hw'; exact kt w' hw'.le))); (first | (apply ol_gskip; rfl; rfl; exact qA; rfl) | (apply ol_gval; rfl; rfl; rfl; exact qA; apply stp_pur; first | (apply s_not_t; rfl; exact qA) | (apply s_not_f; rfl; exact qA) | (apply s_not; rfl))); (apply ol_val; rfl; apply stp_pur; first | (apply s_pick_t; rfl; exact qA; rfl) | (apply s_pick_f; rfl; exact qA; rfl)); (apply ol_mv; rfl; rfl); (first | (apply ol_gskip; rfl; rfl; exact qA; rfl) | (apply ol_gval; rfl; rfl; rfl; exact qA; apply stp_pur; apply s_fieldAddr'; rfl; exact fd_25_1; exact qZ)); (first | (apply ol_gskip; rfl; rfl; exact qA; rfl) | (apply ol_gval; rfl; rfl; rfl; exact qA; apply stp_pur; apply s_load1; rfl; rfl; exact qP)); (first | (apply ol_gskip; rfl; rfl; exact qA; rfl) | (apply ol_gval; rfl; rfl; rfl; exact qA; apply s_callv; rfl; exact gf_53; (intro w' hw'; first | exact k1 w' | exact k2 w' | exact k3 w' | exact k4 w'))); (first | (apply ol_gskip; rfl; rfl; exact qA; rfl) | (apply ol_gval; rfl; rfl; rfl; exact qA; apply stp_pur; first | (apply s_not_t; rfl; exact qA) | (apply s_not_f; rfl; exact qA) | (apply s_not; rfl))); (apply ol_val; rfl; apply stp_pur; first | (apply s_pick_t; rfl; exact qA; rfl) | (apply s_pick_f; rfl; exact qA; rfl)); (apply ol_nil))
      | (refine cw_region_id 2 ?_; (apply ol_as; rfl; rfl); (apply ol_nil))
      | (apply cw_cond_true; rfl; exact qA)
      | (apply cw_cond_false; rfl; exact qA)
      | apply cw_skip
      | apply cw_ret
      | apply cw_block
      | apply cw_exit
    all_goals (refine ends [] (RVal.tmp rfl RVal.nil) Pick.nil ?_; rfl)
  | true =>
    rw [ht] at kt
    repeat' first
      | apply cw_seq
      | (refine cw_region_id 0 ?_; (apply ol_val; rfl; first | (apply s_boxN; rfl; intro bk1) | (apply s_box1; rfl; rfl; intro bk1)); (apply ol_as; rfl; rfl); (apply ol_nil))
      | (refine cw_region_id 1 ?_; (apply ol_fa; rfl; rfl; exact fd_25_0; exact qZ); (apply ol_ld; rfl; rfl; rfl; exact qP); (apply ol_val; rfl; apply s_callv; rfl; exact gf_53; (intro w' hw'; first | exact k1 w' | exact k2 w' | exact k3 w' | exact k4 w')); (apply ol_val; rfl; apply stp_pur; first | (apply s_not_t; rfl; exact qA) | (apply s_not_f; rfl; exact qA) | (apply s_not; rfl)); (apply ol_mv; rfl; rfl); (first | (apply ol_gskip; rfl; rfl; exact qA; rfl) | (apply ol_gval; rfl; rfl; rfl; exact qA; apply stp_pur; apply s_fieldAddr'; rfl; exact fd_25_3; exact qZ)); (first | (apply ol_gskip; rfl; rfl; exact qA; rfl) | (apply ol_gval; rfl; rfl; rfl; exact qA; apply stp_pur; apply s_load1; rfl; rfl; exact qP)); (first | (apply ol_gskip; rfl; rfl; exact qA; rfl) | (apply ol_gval; rfl; rfl; rfl; exact qA; apply s_callv; rfl; exact gf_53; (intro w' hw'; first | exact k1 w' | exact k2 w' | exact k3 w' | exact k4 w'))); (first | (apply ol_gskip; rfl; rfl; exact qA; rfl) | (apply ol_gval; rfl; rfl; rfl; exact qA; apply stp_pur; first | (apply s_not_t; rfl; exact qA) | (apply s_not_f; rfl; exact qA) | (apply s_not; rfl))); (apply ol_val; rfl; apply stp_pur; first | (apply s_pick_t; rfl; exact qA; rfl) | (apply s_pick_f; rfl; exact qA; rfl)); (apply ol_mv; rfl; rfl); (first | (apply ol_gskip; rfl; rfl; exact qA; rfl) | (apply ol_gval; rfl; rfl; rfl; exact qA; apply stp_pur; apply s_fieldAddr'; rfl; exact fd_25_2; exact qZ)); (first | (apply ol_gskip; rfl; rfl; exact qA; rfl) | (apply ol_gval; rfl; rfl; rfl; exact qA; apply stp_pur; apply s_load1; rfl; rfl; exact qP)); (first | (apply ol_gskip; rfl; rfl; exact qA; rfl) | (apply ol_gval; rfl; rfl; rfl; exact qA; apply stp_pur; apply s_fieldAddr'; rfl; exact fd_25_3; exact qZ)); (first | (apply ol_gskip; rfl; rfl; exact qA; rfl) | (apply ol_gval; rfl; rfl; rfl; exact qA; apply stp_pur; apply s_load1; rfl; rfl; exact qP)); (first | (apply ol_gskip; rfl; rfl; exact qA; rfl) | (apply ol_gval; rfl; rfl; rfl; exact qA; apply stp_pur; apply s_sub64; rfl; rfl; omega)); (first | (apply ol_gskip; rfl; rfl; exact qA; rfl) | (apply ol_gval; rfl; rfl; rfl; exact qA; apply s_callv; rfl; exact gf_53; (intro w' hw'; first | exact k1 w' | exact k2 w' | exact k3 w' | exact k4 w'))); (first | (apply ol_gskip; rfl; rfl; exact qA; rfl) | (apply ol_gval; rfl; rfl; rfl; exact qA; apply stp_pur; first | (apply s_not_t; rfl; exact qA) | (apply s_not_f; rfl; exact qA) | (apply s_not; rfl))); (apply ol_val; rfl; apply stp_pur; first | (apply s_pick_t; rfl; exact qA; rfl) | (apply s_pick_f; rfl; exact qA; rfl)); (apply ol_mv; rfl; rfl); (first | (apply ol_gskip; rfl; rfl; exact qA; rfl) | (apply ol_gval; rfl; rfl; rfl; exact qA; apply stp_pur; apply s_fieldAddr'; rfl; exact fd_25_4; exact qZ)); (first | (apply ol_gskip; rfl; rfl; exact qA; rfl) | (apply ol_gval; rfl; rfl; rfl; exact qA; apply stp_pur; apply s_load1; rfl; rfl; exact qP)); (first | (apply ol_gskip; rfl; rfl; exact qA; rfl) | (apply ol_gval; rfl; rfl; rfl; exact qA; apply stp_pur; apply s_fieldAddr'; rfl; exact fd_25_3; exact qZ)); (first | (apply ol_gskip; rfl; rfl; exact qA; rfl) | (apply ol_gval; rfl; rfl; rfl; exact qA; apply stp_pur; apply s_load1; rfl; rfl; exact qP)); (first | (apply ol_gskip; rfl; rfl; exact qA; rfl) | (apply ol_gval; rfl; rfl; rfl; exact qA; apply s_callv; rfl; exact gf_54; (intro w' hw'; exact kt w' hw'.le))); (first | (apply ol_gskip; rfl; rfl; exact qA; rfl) | (apply ol_gval; rfl; rfl; rfl; exact qA; apply stp_pur; first | (apply s_not_t; rfl; exact qA) | (apply s_not_f; rfl; exact qA) | (apply s_not; rfl))); (apply ol_val; rfl; apply stp_pur; first | (apply s_pick_t; rfl; exact qA; rfl) | (apply s_pick_f; rfl; exact qA; rfl)); (apply ol_mv; rfl; rfl); (first | (apply ol_gskip; rfl; rfl; exact qA; rfl) | (apply ol_gval; rfl; rfl; rfl; exact qA; apply stp_pur; apply s_fieldAddr'; rfl; exact fd_25_1; exact qZ)); (first | (apply ol_gskip; rfl; rfl; exact qA; rfl) | (apply ol_gval; rfl; rfl; rfl; exact qA; apply stp_pur; apply s_load1; rfl; rfl; exact qP)); (first | (apply ol_gskip; rfl; rfl; exact qA; rfl) | (apply ol_gval; rfl; rfl; rfl; exact qA; apply s_callv; rfl; exact gf_53; (intro w' hw'; first | exact k1 w' | exact k2 w' | exact k3 w' | exact k4 w'))); (first | (apply ol_gskip; rfl; rfl; exact qA; rfl) | (apply ol_gval; rfl; rfl; rfl; exact qA; apply stp_pur; first | (apply s_not_t; rfl; exact qA) | (apply s_not_f; rfl; exact qA) | (apply s_not; rfl))); (apply ol_val; rfl; apply stp_pur; first | (apply s_pick_t; rfl; exact qA; rfl) | (apply s_pick_f; rfl; exact qA; rfl)); (apply ol_nil))
      | (refine cw_region_id 3 ?_; (apply ol_fa; rfl; rfl; exact fd_25_2; exact qZ); (apply ol_ld; rfl; rfl; rfl; exact qP); (apply ol_val; rfl; apply stp_cmp; apply s_neq; rfl; rfl; all_goals (intro hc40; try (exfalso; (first | exact hc40 rfl | omega)))); all_goals (apply ol_mv; rfl; rfl); all_goals (first | (apply ol_gskip; rfl; rfl; exact qA; rfl) | (apply ol_gval; rfl; rfl; rfl; exact qA; apply stp_pur; apply s_fieldAddr'; rfl; exact fd_25_1; exact qZ)); all_goals (first | (apply ol_gskip; rfl; rfl; exact qA; rfl) | (apply ol_gval; rfl; rfl; rfl; exact qA; apply stp_pur; apply s_load1; rfl; rfl; exact qP)); all_goals (first | (apply ol_gskip; rfl; rfl; exact qA; rfl) | (apply ol_gval; rfl; rfl; rfl; exact qA; apply stp_cmp; apply s_eql; rfl; rfl; all_goals (intro hc44; try (exfalso; (first | exact hc44 rfl | omega))))); all_goals (apply ol_val; rfl; apply stp_pur; first | (apply s_pick_t; rfl; exact qA; rfl) | (apply s_pick_f; rfl; exact qA; rfl)); all_goals (apply ol_nil))
      | (refine cw_region_id 4 ?_; (apply ol_fa; rfl; rfl; exact fd_25_5; exact qZ); (apply ol_ld; rfl; rfl; rfl; exact qP); (apply ol_val; rfl; apply stp_pur; apply s_len; rfl; exact el_23); (apply ol_val; rfl; apply stp_cmp; apply s_eql; rfl; rfl; all_goals (intro hc49; try (exfalso; (first | exact hc49 rfl | omega)))); all_goals (apply ol_mv; rfl; rfl); all_goals (first | (apply ol_gskip; rfl; rfl; exact qA; rfl) | (apply ol_gval; rfl; rfl; rfl; exact qA; apply stp_pur; apply s_fieldAddr'; rfl; exact fd_25_2; exact qZ)); all_goals (first | (apply ol_gskip; rfl; rfl; exact qA; rfl) | (apply ol_gval; rfl; rfl; rfl; exact qA; apply stp_pur; apply s_load1; rfl; rfl; exact qP)); all_goals (first | (apply ol_gskip; rfl; rfl; exact qA; rfl) | (apply ol_gval; rfl; rfl; rfl; exact qA; apply stp_cmp; apply s_eql; rfl; rfl; all_goals (intro hc53; try (exfalso; (first | exact hc53 rfl | omega))))); all_goals (first | (apply ol_gskip; rfl; rfl; exact qA; rfl) | (apply ol_gval; rfl; rfl; rfl; exact qA; apply stp_pur; apply s_move; rfl)); all_goals (first | (apply ol_gskip; rfl; rfl; exact qA; rfl) | (apply ol_gskipu; rfl; rfl; rfl) | (apply ol_gval; rfl; rfl; rfl; exact qA; apply stp_pur; apply s_fieldAddr'; rfl; exact fd_25_1; exact qZ)); all_goals (first | (apply ol_gskip; rfl; rfl; exact qA; rfl) | (apply ol_gskipu; rfl; rfl; rfl) | (apply ol_gval; rfl; rfl; rfl; exact qA; apply stp_pur; apply s_load1; rfl; rfl; exact qP)); all_goals (first | (apply ol_gskip; rfl; rfl; exact qA; rfl) | (apply ol_gskipu; rfl; rfl; rfl) | (apply ol_gval; rfl; rfl; rfl; exact qA; apply stp_cmp; apply s_neq; rfl; rfl; all_goals (intro hc57; try (exfalso; (first | exact hc57 rfl | omega))))); all_goals (first | (apply ol_gskip; rfl; rfl; exact qA; rfl) | (apply ol_gskipu; rfl; rfl; rfl) | (apply ol_gval; rfl; rfl; rfl; exact qA; apply stp_pur; apply s_move; rfl)); all_goals (first | (apply ol_gskip; rfl; rfl; exact qA; rfl) | (apply ol_gskipu; rfl; rfl; rfl) | (apply ol_gval; rfl; rfl; rfl; exact qA; apply stp_pur; apply s_fieldAddr'; rfl; exact fd_25_1; exact qZ)); all_goals (first | (apply ol_gskip; rfl; rfl; exact qA; rfl) | (apply ol_gskipu; rfl; rfl; rfl) | (apply ol_gval; rfl; rfl; rfl; exact qA; apply stp_pur; apply s_load1; rfl; rfl; exact qP)); all_goals (first | (apply ol_gskip; rfl; rfl; exact qA; rfl) | (apply ol_gskipu; rfl; rfl; rfl) | (apply ol_gval; rfl; rfl; rfl; exact qA; apply stp_cmp; apply s_neq; rfl; rfl; all_goals (intro hc61; try (exfalso; (first | exact hc61 rfl | omega))))); all_goals (first | (apply ol_gskip; rfl; rfl; exact qA; rfl) | (apply ol_gskipu; rfl; rfl; rfl) | (apply ol_gval; rfl; rfl; rfl; exact qA; apply stp_pur; first | (apply s_pick_t; rfl; exact qA; rfl) | (apply s_pick_f; rfl; exact qA; rfl))); all_goals (first | (apply ol_gskip; rfl; rfl; exact qA; rfl) | (apply ol_gval; rfl; rfl; rfl; exact qA; apply stp_pur; first | (apply s_pick_t; rfl; exact qA; rfl) | (apply s_pick_f; rfl; exact qA; rfl))); all_goals (apply ol_val; rfl; apply stp_pur; first | (apply s_pick_t; rfl; exact qA; rfl) | (apply s_pick_f; rfl; exact qA; rfl)); all_goals (apply ol_as; rfl; rfl); all_goals (apply ol_nil))
      | (apply cw_cond_true; rfl; exact qA)
      | (apply cw_cond_false; rfl; exact qA)
      | apply cw_skip
      | apply cw_ret
      | apply cw_block
      | apply cw_exit
    all_goals (refine ends [] (RVal.tmp rfl RVal.nil) Pick.nil ?_; rfl)
def newQ (bn : Int) (l : List C3) : SV × Nat := if trB bn l = true then (newS 7 0 bn l, 0) else (zSV, 1)
theorem rnew_new {M : View} {w : World} (hM : View.le M (View.of w)) {bn : Int} (hb : 1 ≤ bn ∧ bn ≤ 8) {l : List C3} {n c : Nat} (hn : l.length = n) {a : Option Addr} {b o : Nat} (s : SlA M C3.enc 3 a l b o) :
    FnM Try.prog 21 [.int .i64 7, .int .i64 0, .int .i64 bn, .slice a n c] w [] (NewR (newQ bn l)) := by
  have kv := fun (w' : World) (h : View.le M (View.of w')) => rvalid_new h hb hn (c := c) (va := none) (vc := 0) s
  subst hn
  unfold newQ
  refine enterW (M := M) Try.func21 rfl rfl rfl rfl hM (fun _ h => by cases h) (fun _ h => by cases h) List.nodup_nil ?_
  cases hv : trB bn l with
  | true =>
    have hn1 : l.length ≤ 100000 := by unfold trB at hv; rw [Bool.and_eq_true, decide_eq_true_iff] at hv; omega
    have hs : LsV M ⟨7, 0, 0, bn, ⟨l, a, b, o, c⟩, ⟨[], none, 0, 0, 0⟩⟩ := ⟨s, SlA.none', hn1, Nat.zero_le _⟩
    have kc := fun (w' : World) (h : View.le M (View.of w')) => copied_spec h hs
    unfold LS.enc LS.val at kc
    dsimp only at kc
    rw [show (⟨7, 0, 0, bn, l, []⟩ : SV) = newS 7 0 bn l from rfl] at kc
    unfold CopR at kc
    rw [if_pos rfl]
    rw [hv] at kv
    repeat' first
      | apply cw_seq
      | (refine cw_region_id 0 ?_; (apply ol_val; rfl; apply s_alloc; exact zb_25; exact qN; intro bk8); (apply ol_as; rfl; rfl); (apply ol_nil))
      | (refine cw_region_id 1 ?_; (apply ol_mv; rfl; rfl); (apply ol_mv; rfl; rfl); (apply ol_mv; rfl; rfl); (apply ol_mv; rfl; rfl); (apply ol_val; rfl; apply stp_pur; apply s_buildS; rfl; exact fs_25; exact zb_25; exact qR); (apply ol_val; rfl; apply s_alloc; exact zb_25; exact qN; intro bk10); (apply ol_eff; apply s_storeN; rfl; rfl; exact sz_25; rfl; rfl; exact qN; exact qN); (apply ol_nil))
      | (refine cw_region_id 2 ?_; (apply ol_ldN; rfl; rfl; rfl; exact sz_25; exact qQ); (apply ol_val; rfl; apply s_callv; rfl; exact gf_25; (intro w' hw'; exact kv w' hw'.le)); (apply ol_val; rfl; apply stp_pur; first | (apply s_not_t; rfl; exact qA) | (apply s_not_f; rfl; exact qA) | (apply s_not; rfl)); (apply ol_nil))
      | (refine cw_region_id 4 ?_; (apply ol_ldN; rfl; rfl; rfl; exact sz_25; exact qQ); (apply ol_val; rfl; apply s_call; rfl; exact gf_37; (intro w' hw'; exact kc w' hw'.le); ((intro v new h; obtain ⟨rt, ct, spt, rv, cv, spv, rfl, rfl, so1, so2⟩ := h))); (apply ol_eff; apply s_storeN; rfl; rfl; exact sz_25; rfl; rfl; exact qN; exact qN); (apply ol_as; rfl; rfl); (apply ol_nil))
      | (apply cw_cond_true; rfl; exact qA)
      | (apply cw_cond_false; rfl; exact qA)
      | apply cw_skip
      | apply cw_ret
      | apply cw_block
      | apply cw_exit
    refine endsW [] [⟨rt, flat C3.enc (newS 7 0 bn l).tr ++ spt, 61⟩, ⟨rv, flat (eK .i64) (newS 7 0 bn l).vo ++ spv, 3⟩] View.nil (RVal.cellN rfl rfl rfl (RdN.own (by (repeat (first | exact Has.here | apply Has.there))) (by focus ((repeat (first | rfl | constructor)); done))) (RVal.tmp rfl RVal.nil)) (by exact qK) (View.nil_le _) (View.freshM_nil _ _) (fun F _ hz => ?_)
    exact ⟨_, rfl, SetR.mk (s := newS 7 0 bn l) (SlA.inV C3.enc_length (hz _ (List.Mem.head _)) (fun h => SO.emp so1 h)) (SlA.inV (eK_length .i64) (hz _ (List.Mem.tail _ (List.Mem.head _))) (fun h => SO.emp so2 h)) hn1 (Nat.zero_le _), rfl⟩
  | false =>
    rw [if_neg (by simp)]
    rw [hv] at kv
    repeat' first
      | apply cw_seq
      | (refine cw_region_id 0 ?_; (apply ol_val; rfl; apply s_alloc; exact zb_25; exact qN; intro bk8); (apply ol_as; rfl; rfl); (apply ol_nil))
      | (refine cw_region_id 1 ?_; (apply ol_mv; rfl; rfl); (apply ol_mv; rfl; rfl); (apply ol_mv; rfl; rfl); (apply ol_mv; rfl; rfl); (apply ol_val; rfl; apply stp_pur; apply s_buildS; rfl; exact fs_25; exact zb_25; exact qR); (apply ol_val; rfl; apply s_alloc; exact zb_25; exact qN; intro bk10); (apply ol_eff; apply s_storeN; rfl; rfl; exact sz_25; rfl; rfl; exact qN; exact qN); (apply ol_nil))
      | (refine cw_region_id 2 ?_; (apply ol_ldN; rfl; rfl; rfl; exact sz_25; exact qQ); (apply ol_val; rfl; apply s_callv; rfl; exact gf_25; (intro w' hw'; exact kv w' hw'.le)); (apply ol_val; rfl; apply stp_pur; first | (apply s_not_t; rfl; exact qA) | (apply s_not_f; rfl; exact qA) | (apply s_not; rfl)); (apply ol_nil))
      | (refine cw_region_id 3 ?_; (apply ol_val; rfl; apply stp_pur; apply s_buildS; rfl; exact fs_25; exact zb_25; exact qR); (apply ol_eff; apply s_storeN; rfl; rfl; exact sz_25; rfl; rfl; exact qN; exact qN); (apply ol_as; rfl; rfl); (apply ol_nil))
      | (apply cw_cond_true; rfl; exact qA)
      | (apply cw_cond_false; rfl; exact qA)
      | apply cw_skip
      | apply cw_ret
      | apply cw_block
      | apply cw_exit
    refine endsW [] [] View.nil (RVal.cellN rfl rfl rfl (RdN.own (by (repeat (first | exact Has.here | apply Has.there))) (by focus ((repeat (first | rfl | constructor)); done))) (RVal.tmp rfl RVal.nil)) Pick.nil (View.nil_le _) (View.freshM_nil _ _) (fun F _ hz => ?_)
    exact ⟨_, rfl, SetR.zero F, rfl⟩
end Go.Proofs.Ytagmoecojmlogaa
namespace Go.Proofs.Ytagmoecojmlogaa
set_option maxRecDepth 20000
set_option linter.unusedSimpArgs false
set_option linter.unusedVariables false
open Go Go.Fw
def tfsB (n : Nat) (l : List C3) : Bool := decide (l.length ≤ 10) && trB n l
end Go.Proofs.Ytagmoecojmlogaa
namespace Go.Proofs.Ytagmoecojmlogaa
set_option maxRecDepth 20000
set_option linter.unusedSimpArgs false
set_option linter.unusedVariables false
open Go Go.Fw
attribute [local irreducible] CW OL OD FX Stp FnC FnV FnA FnM Ret svB noneV hz bodyP newP trB
set_option maxHeartbeats 800000
theorem tfs_spec {M : View} {w : World} (hM : View.le M (View.of w)) {n : Nat} (hn : 1 ≤ n ∧ n ≤ 8) {l : List C3} {m c : Nat} (hm : l.length = m) {a : Option Addr} {b o : Nat} (s : SlA M C3.enc 3 a l b o) :
    FnC Try.prog 26 [.slice a m c, .int .i64 (n : Nat)] w (fun v _ => v = .bool (tfsB n l)) := by
  subst hm
  unfold tfsB
  have hnn : 1 ≤ (n : Int) ∧ (n : Int) ≤ 8 := by omega
  have k := fun (w' : World) (h : View.le M (View.of w')) => rnew_new h hnn rfl (c := c) s
  unfold NewR newQ at k
  have kv := fun (w' : World) {M' : View} {ta va : Option Addr} {tb to tc vc : Nat} (h : View.le M' (View.of w')) (hs : SlA M' C3.enc 3 ta l tb to) => rvalid_new h hnn rfl (c := tc) (va := va) (vc := vc) hs
  cases ht : trB n l with
  | true =>
    rw [ht, if_pos rfl] at k
    rw [ht] at kv
    by_cases h10 : l.length ≤ 10
    · rw [decide_eq_true h10]
      refine enterF (M := M) Try.func26 rfl rfl rfl rfl hM ?_
      repeat' first
        | apply cw_seq
        | (refine cw_region_id 0 ?_; (apply ol_as; rfl; rfl); (apply ol_nil))
        | (refine cw_region_id 1 ?_; (apply ol_mv; rfl; rfl); (apply ol_mv; rfl; rfl); (apply ol_val; rfl; apply s_callM (xs := []); rfl; exact gf_21; (focus ((repeat (first | exact Pk.nil | (apply Pk.cons; (repeat (first | exact Spl.here | apply Spl.there))))); done)); (intro w' M2 hw' hrd; exact k w' hw'.le); (intro v F10 ys M10 h hl10 hL10 hF10; obtain ⟨u, rfl, hset, rfl⟩ := h; obtain ⟨ta10, tb10, to10, tc10, va10, vb10, vo10, vc10, rfl, st10, sv10, lt10, lv10⟩ := SetR.out hset)); (apply ol_mv; rfl; rfl); (apply ol_ex; rfl; rfl; rfl); (apply ol_ex; rfl; rfl; rfl); (apply ol_val; rfl; apply s_alloc; exact zb_25; exact qN; intro bk5); (apply ol_eff; apply s_storeN; rfl; rfl; exact sz_25; rfl; rfl; exact qN; exact qN); (apply ol_as; rfl; rfl); (apply ol_nil))
        | (refine cw_region_id 2 ?_; (apply ol_mv; rfl; rfl); (apply ol_val; rfl; apply stp_pur; apply s_len; rfl; exact el_22); (apply ol_val; rfl; apply stp_cmp; apply s_leq; rfl; rfl; all_goals (intro hc15; try (exfalso; (first | exact hc15 rfl | omega)))); all_goals (apply ol_mv; rfl; rfl); all_goals (first | (apply ol_gskip; rfl; rfl; exact qA; rfl) | (apply ol_gval; rfl; rfl; rfl; exact qA; apply stp_pur; apply s_move; rfl)); all_goals (first | (apply ol_gskip; rfl; rfl; exact qA; rfl) | (apply ol_gval; rfl; rfl; rfl; exact qA; apply stp_cmp; apply s_eql; rfl; rfl; all_goals (intro hc18; try (exfalso; (first | exact hc18 rfl | omega))))); all_goals (apply ol_val; rfl; apply stp_pur; first | (apply s_pick_t; rfl; exact qA; rfl) | (apply s_pick_f; rfl; exact qA; rfl)); all_goals (apply ol_mv; rfl; rfl); all_goals (first | (apply ol_gskip; rfl; rfl; exact qA; rfl) | (apply ol_gval; rfl; rfl; rfl; exact qA; apply stp_pur; apply s_loadN; rfl; rfl; exact sz_25; exact qQ)); all_goals (first | (apply ol_gskip; rfl; rfl; exact qA; rfl) | (apply ol_gval; rfl; rfl; rfl; exact qA; apply s_callv; rfl; exact gf_25; (intro w' hw'; exact kv w' (hL10.trans hw'.le) st10))); all_goals (apply ol_val; rfl; apply stp_pur; first | (apply s_pick_t; rfl; exact qA; rfl) | (apply s_pick_f; rfl; exact qA; rfl)); all_goals (apply ol_as; rfl; rfl); all_goals (apply ol_nil))
        | (apply cw_cond_true; rfl; exact qA)
        | (apply cw_cond_false; rfl; exact qA)
        | apply cw_skip
        | apply cw_ret
        | apply cw_block
        | apply cw_exit
      all_goals (refine ends [] (RVal.tmp rfl RVal.nil) Pick.nil ?_; rfl)
    · rw [decide_eq_false h10]
      refine enterF (M := M) Try.func26 rfl rfl rfl rfl hM ?_
      repeat' first
        | apply cw_seq
        | (refine cw_region_id 0 ?_; (apply ol_as; rfl; rfl); (apply ol_nil))
        | (refine cw_region_id 1 ?_; (apply ol_mv; rfl; rfl); (apply ol_mv; rfl; rfl); (apply ol_val; rfl; apply s_callM (xs := []); rfl; exact gf_21; (focus ((repeat (first | exact Pk.nil | (apply Pk.cons; (repeat (first | exact Spl.here | apply Spl.there))))); done)); (intro w' M2 hw' hrd; exact k w' hw'.le); (intro v F10 ys M10 h hl10 hL10 hF10; obtain ⟨u, rfl, hset, rfl⟩ := h; obtain ⟨ta10, tb10, to10, tc10, va10, vb10, vo10, vc10, rfl, st10, sv10, lt10, lv10⟩ := SetR.out hset)); (apply ol_mv; rfl; rfl); (apply ol_ex; rfl; rfl; rfl); (apply ol_ex; rfl; rfl; rfl); (apply ol_val; rfl; apply s_alloc; exact zb_25; exact qN; intro bk5); (apply ol_eff; apply s_storeN; rfl; rfl; exact sz_25; rfl; rfl; exact qN; exact qN); (apply ol_as; rfl; rfl); (apply ol_nil))
        | (refine cw_region_id 2 ?_; (apply ol_mv; rfl; rfl); (apply ol_val; rfl; apply stp_pur; apply s_len; rfl; exact el_22); (apply ol_val; rfl; apply stp_cmp; apply s_leq; rfl; rfl; all_goals (intro hc15; try (exfalso; (first | exact hc15 rfl | omega)))); all_goals (apply ol_mv; rfl; rfl); all_goals (first | (apply ol_gskip; rfl; rfl; exact qA; rfl) | (apply ol_gval; rfl; rfl; rfl; exact qA; apply stp_pur; apply s_move; rfl)); all_goals (first | (apply ol_gskip; rfl; rfl; exact qA; rfl) | (apply ol_gval; rfl; rfl; rfl; exact qA; apply stp_cmp; apply s_eql; rfl; rfl; all_goals (intro hc18; try (exfalso; (first | exact hc18 rfl | omega))))); all_goals (apply ol_val; rfl; apply stp_pur; first | (apply s_pick_t; rfl; exact qA; rfl) | (apply s_pick_f; rfl; exact qA; rfl)); all_goals (apply ol_mv; rfl; rfl); all_goals (first | (apply ol_gskip; rfl; rfl; exact qA; rfl) | (apply ol_gval; rfl; rfl; rfl; exact qA; apply stp_pur; apply s_loadN; rfl; rfl; exact sz_25; exact qQ)); all_goals (first | (apply ol_gskip; rfl; rfl; exact qA; rfl) | (apply ol_gval; rfl; rfl; rfl; exact qA; apply s_callv; rfl; exact gf_25; (intro w' hw'; fail))); all_goals (apply ol_val; rfl; apply stp_pur; first | (apply s_pick_t; rfl; exact qA; rfl) | (apply s_pick_f; rfl; exact qA; rfl)); all_goals (apply ol_as; rfl; rfl); all_goals (apply ol_nil))
        | (apply cw_cond_true; rfl; exact qA)
        | (apply cw_cond_false; rfl; exact qA)
        | apply cw_skip
        | apply cw_ret
        | apply cw_block
        | apply cw_exit
      all_goals (refine ends [] (RVal.tmp rfl RVal.nil) Pick.nil ?_; rfl)
  | false =>
    rw [ht, if_neg (by simp)] at k
    rw [Bool.and_false]
    refine enterF (M := M) Try.func26 rfl rfl rfl rfl hM ?_
    repeat' first
      | apply cw_seq
      | (refine cw_region_id 0 ?_; (apply ol_as; rfl; rfl); (apply ol_nil))
      | (refine cw_region_id 1 ?_; (apply ol_mv; rfl; rfl); (apply ol_mv; rfl; rfl); (apply ol_val; rfl; apply s_callM (xs := []); rfl; exact gf_21; (focus ((repeat (first | exact Pk.nil | (apply Pk.cons; (repeat (first | exact Spl.here | apply Spl.there))))); done)); (intro w' M2 hw' hrd; exact k w' hw'.le); (intro v F10 ys M10 h hl10 hL10 hF10; obtain ⟨u, rfl, hset, rfl⟩ := h; obtain ⟨ta10, tb10, to10, tc10, va10, vb10, vo10, vc10, rfl, st10, sv10, lt10, lv10⟩ := SetR.out hset)); (apply ol_mv; rfl; rfl); (apply ol_ex; rfl; rfl; rfl); (apply ol_ex; rfl; rfl; rfl); (apply ol_val; rfl; apply s_alloc; exact zb_25; exact qN; intro bk5); (apply ol_eff; apply s_storeN; rfl; rfl; exact sz_25; rfl; rfl; exact qN; exact qN); (apply ol_as; rfl; rfl); (apply ol_nil))
      | (refine cw_region_id 2 ?_; (apply ol_mv; rfl; rfl); (apply ol_val; rfl; apply stp_pur; apply s_len; rfl; exact el_22); (apply ol_val; rfl; apply stp_cmp; apply s_leq; rfl; rfl; all_goals (intro hc15; try (exfalso; (first | exact hc15 rfl | omega)))); all_goals (apply ol_mv; rfl; rfl); all_goals (first | (apply ol_gskip; rfl; rfl; exact qA; rfl) | (apply ol_gval; rfl; rfl; rfl; exact qA; apply stp_pur; apply s_move; rfl)); all_goals (first | (apply ol_gskip; rfl; rfl; exact qA; rfl) | (apply ol_gval; rfl; rfl; rfl; exact qA; apply stp_cmp; apply s_eql; rfl; rfl; all_goals (intro hc18; try (exfalso; (first | exact hc18 rfl | omega))))); all_goals (apply ol_val; rfl; apply stp_pur; first | (apply s_pick_t; rfl; exact qA; rfl) | (apply s_pick_f; rfl; exact qA; rfl)); all_goals (apply ol_mv; rfl; rfl); all_goals (first | (apply ol_gskip; rfl; rfl; exact qA; rfl) | (apply ol_gval; rfl; rfl; rfl; exact qA; apply stp_pur; apply s_loadN; rfl; rfl; exact sz_25; exact qQ)); all_goals (first | (apply ol_gskip; rfl; rfl; exact qA; rfl) | (apply ol_gval; rfl; rfl; rfl; exact qA; apply s_callv; rfl; exact gf_25; (intro w' hw'; fail))); all_goals (apply ol_val; rfl; apply stp_pur; first | (apply s_pick_t; rfl; exact qA; rfl) | (apply s_pick_f; rfl; exact qA; rfl)); all_goals (apply ol_as; rfl; rfl); all_goals (apply ol_nil))
      | (apply cw_cond_true; rfl; exact qA)
      | (apply cw_cond_false; rfl; exact qA)
      | apply cw_skip
      | apply cw_ret
      | apply cw_block
      | apply cw_exit
    all_goals (refine ends [] (RVal.tmp rfl RVal.nil) Pick.nil ?_; rfl)
end Go.Proofs.Ytagmoecojmlogaa
namespace Go.Proofs.Ytagmoecojmlogaa
set_option maxRecDepth 20000
set_option linter.unusedSimpArgs false
set_option linter.unusedVariables false
open Go Go.Fw
/-- What Begin hands back: the settlement for reading, the messages to write behind. -/
def BegR (p : SV × List MV × Nat) (v : Value) (F : View) (ys : List OB) : Prop :=
  ∃ u l, v = .tuple #[u, l, .int .i64 p.2.2] ∧ SetR p.1 F u ∧ ∃ r co sp xs, l = .slice (base r none) xs.length co ∧ ys = [⟨r, flat LM.enc xs ++ sp, 28⟩] ∧ SO r xs.length co (flat LM.enc xs) sp 5 ∧ (∀ m ∈ xs, LmV F m) ∧ xs.map LM.val = p.2.1
/-- Banks and messages, as they lie in memory. -/
def SysR (y : YS) (sb : Nat) (N : View) (ys : List OB) : Prop :=
  ∃ (rb cb : Nat) (spb : List Value) (rw : Option Nat) (ow : Nat) (Aw : Option Addr) (cw : Nat) (fr spw : List Value) (bs : List LS) (ms : List LM),
    ys = [⟨some sb, [.slice (some ⟨rb, 0, none⟩) bs.length cb, .slice (bof rw ow Aw) ms.length cw], 56⟩, ⟨some rb, flat LS.enc bs ++ spb, 25⟩, ⟨rw, fr ++ (flat LM.enc ms ++ spw), 28⟩] ∧
      bs.map LS.val = y.bs ∧ (∀ s ∈ bs, LsV N s) ∧ ms.map LM.val = y.way ∧ (∀ m ∈ ms, LmV N m) ∧ SO (some rb) bs.length cb (flat LS.enc bs) spb 6 ∧ SF rw ow ms.length cw fr (flat LM.enc ms) spw 5
end Go.Proofs.Ytagmoecojmlogaa
namespace Go.Proofs.Ytagmoecojmlogaa
set_option maxRecDepth 20000
set_option linter.unusedSimpArgs false
set_option linter.unusedVariables false
open Go Go.Fw
attribute [local irreducible] CW OL OD FX Stp FnC FnV FnA FnM Ret svB noneV hz bodyP strOf mvB coordP partP
set_option maxHeartbeats 1600000
theorem begin_own {M : View} {w : World} (hM : View.le M (View.of w)) {s : LS} (hs : LsV M s) (hv : svB s.val = true) (hst : ¬ (s.val.bk ≠ 0 ∨ s.val.ph ≠ 0)) : FnM Try.prog 19 [.agg s.enc.toArray] w [] (BegR (beginP s.val)) := by
  have kv := fun (w' : World) (h : View.le M (View.of w')) => valid_spec' h hs
  unfold beginP
  rw [hv] at kv
  rw [if_pos hv]
  have hva := svB_all hv
  have hvo := svB_vo hv
  have htl := (trB_mem hva.2.2.2.1).1
  rw [if_neg hst]
  have hbn := hva.2.1
  obtain ⟨n, hn⟩ : ∃ n : Nat, s.val.bn = n := ⟨s.val.bn.toNat, by omega⟩
  obtain ⟨nv, hnv, hnl⟩ : ∃ nv, noneV (n : Int) = nv ∧ nv.length = n := ⟨_, rfl, noneV_len (by omega)⟩
  have hbb := bodyP_b s.val.tr
  have hbl := bodyP_length s.val.tr
  have hl1 := hs.lt
  have ho := fun (w' : World) (h : View.le M (View.of w')) => open_spec h hs
  unfold LS.enc LS.val OpenR at *
  obtain ⟨ro, ph, bk, bn, ⟨tr, ta, tb, to, tc⟩, ⟨vo, va, vb, vo', vc⟩⟩ := s
  dsimp only at *
  subst hn
  rw [hnv]
  have hset := fun {off : Nat} (e : off = 0) => setRep (by omega) hnv e
  subst hnl
  clear hvo hva hv
  refine enterW (M := M) Try.func19 rfl rfl rfl rfl hM (fun _ h => by cases h) (fun _ h => by cases h) List.nodup_nil ?_
  refine cw_none 28 ?_
  by_cases h1 : (nv.length : Int) = 1
  · rw [if_pos h1]
    repeat' first
      | apply cw_seq
      | (refine cw_region_id 0 ?_; (apply ol_val; rfl; first | (apply s_boxN; rfl; intro bk1) | (apply s_box1; rfl; rfl; intro bk1)); (apply ol_val; rfl; apply s_alloc; exact zb_25; exact qN; intro bk2); (apply ol_as; rfl; rfl); (apply ol_as; rfl; rfl); (apply ol_nil))
      | (refine cw_region_id 1 ?_; (apply ol_ldN; rfl; rfl; rfl; exact sz_25; exact qQ); (apply ol_val; rfl; apply s_callv; rfl; exact gf_24; (intro w' hw'; exact kv w' hw'.le)); (apply ol_val; rfl; apply stp_pur; first | (apply s_not_t; rfl; exact qA) | (apply s_not_f; rfl; exact qA) | (apply s_not; rfl)); (apply ol_as; rfl; rfl); (apply ol_nil))
      | (refine cw_region_id 3 ?_; (apply ol_fa; rfl; rfl; exact fd_25_2; exact qZ); (apply ol_ld; rfl; rfl; rfl; exact qP); (apply ol_val; rfl; apply stp_cmp; apply s_neq; rfl; rfl; all_goals (intro hc14; try (exfalso; (first | exact hc14 rfl | omega)))); all_goals (apply ol_mv; rfl; rfl); all_goals (first | (apply ol_gskip; rfl; rfl; exact qA; rfl) | (apply ol_gval; rfl; rfl; rfl; exact qA; apply stp_pur; apply s_fieldAddr'; rfl; exact fd_25_1; exact qZ)); all_goals (first | (apply ol_gskip; rfl; rfl; exact qA; rfl) | (apply ol_gval; rfl; rfl; rfl; exact qA; apply stp_pur; apply s_load1; rfl; rfl; exact qP)); all_goals (first | (apply ol_gskip; rfl; rfl; exact qA; rfl) | (apply ol_gval; rfl; rfl; rfl; exact qA; apply stp_cmp; apply s_neq; rfl; rfl; all_goals (intro hc18; try (exfalso; (first | exact hc18 rfl | omega))))); all_goals (apply ol_val; rfl; apply stp_pur; first | (apply s_pick_t; rfl; exact qA; rfl) | (apply s_pick_f; rfl; exact qA; rfl)); all_goals (apply ol_as; rfl; rfl); all_goals (apply ol_nil))
      | (refine cw_region_id 5 ?_; (apply ol_ldN; rfl; rfl; rfl; exact sz_25; exact qQ); (apply ol_val; rfl; apply s_callM (xs := []); rfl; exact gf_33; (focus ((repeat (first | exact Pk.nil | (apply Pk.cons; (repeat (first | exact Spl.here | apply Spl.there))))); done)); (intro w' M2 hw' hrd; exact ho w' hw'.le); (intro v F22 ys M22 h hl22 hL22 hF22; obtain ⟨sb, ta', tb', to', tc', rv, Av, cv, spv, hst, rfl, rfl, so⟩ := h)); (apply ol_as; rfl; rfl); (apply ol_nil))
      | (refine cw_region_id 6 ?_; (apply ol_mv; rfl; rfl); (apply ol_mv; rfl; rfl); (apply ol_val; rfl; apply stp_pur; apply s_nilCheck; rfl); (apply ol_fa; rfl; rfl; exact fd_70_0; exact qZ); (apply ol_fa; rfl; rfl; exact fd_25_3; exact qZ); (apply ol_ld; rfl; rfl; rfl; exact qP); (apply ol_val; rfl; apply s_makeB; rfl; rfl; exact el_23; exact sz_3; exact zb_3; rfl; exact by_3; omega; omega; omega; intro bk29); (apply ol_val; rfl; apply stp_pur; apply s_nilCheck; rfl); (apply ol_fa; rfl; rfl; exact fd_70_0; exact qZ); (apply ol_fa; rfl; rfl; exact fd_25_5; exact qZ); (apply ol_eff; apply s_store1; rfl; rfl; exact sz_23; rfl; exact qN; (first | exact qN | (exact hset (by first | rfl | omega)) | (apply SetAt.set; exact qO))); (apply ol_nil))
      | (refine cw_region_id 7 ?_; (apply ol_mv; rfl; rfl); (apply ol_val; rfl; apply stp_pur; apply s_nilCheck; rfl); (apply ol_fa; rfl; rfl; exact fd_70_0; exact qZ); (apply ol_fa; rfl; rfl; exact fd_25_5; exact qZ); (apply ol_ld; rfl; rfl; rfl; exact qP); (apply ol_val; rfl; apply stp_pur; first | (apply s_indexK; rfl; rfl; exact el_23; exact sz_3; (first | rfl); omega) | (apply s_indexO; rfl; rfl; exact el_23; exact sz_3; (first | rfl); omega)); (apply ol_eff; apply s_store1; rfl; rfl; exact sz_3; rfl; exact qN; (first | exact qN | (exact hset (by first | rfl | omega)) | (apply SetAt.set; exact qO))); (apply ol_nil))
      | (refine cw_region_id 8 ?_; (apply ol_mv; rfl; rfl); (apply ol_val; rfl; apply stp_pur; apply s_nilCheck; rfl); (apply ol_fa; rfl; rfl; exact fd_70_0; exact qZ); (apply ol_fa; rfl; rfl; exact fd_25_1; exact qZ); (apply ol_eff; apply s_store1; rfl; rfl; exact sz_3; rfl; exact qN; (first | exact qN | (exact hset (by first | rfl | omega)) | (apply SetAt.set; exact qO))); (apply ol_nil))
      | (refine cw_region_id 9 ?_; (apply ol_mv; rfl; rfl); (apply ol_val; rfl; apply stp_pur; apply s_nilCheck; rfl); (apply ol_fa; rfl; rfl; exact fd_70_0; exact qZ); (apply ol_fa; rfl; rfl; exact fd_25_3; exact qZ); (apply ol_ld; rfl; rfl; rfl; exact qP); (apply ol_val; rfl; apply stp_cmp; apply s_eql; rfl; rfl; all_goals (intro hc48; try (exfalso; (first | exact hc48 rfl | omega)))); all_goals (apply ol_nil))
      | (refine cw_region_id 10 ?_; (apply ol_mv; rfl; rfl); (apply ol_val; rfl; apply stp_pur; apply s_nilCheck; rfl); (apply ol_fa; rfl; rfl; exact fd_70_0; exact qZ); (apply ol_fa; rfl; rfl; exact fd_25_1; exact qZ); (apply ol_eff; apply s_store1; rfl; rfl; exact sz_3; rfl; exact qN; (first | exact qN | (exact hset (by first | rfl | omega)) | (apply SetAt.set; exact qO))); (apply ol_nil))
      | (refine cw_region_id 11 ?_; (apply ol_mv; rfl; rfl); (apply ol_mv; rfl; rfl); (apply ol_val; rfl; apply stp_pur; apply s_nilCheck; rfl); (apply ol_fa; rfl; rfl; exact fd_70_0; exact qZ); (apply ol_fa; rfl; rfl; exact fd_25_4; exact qZ); (apply ol_ld; rfl; rfl; rfl; exact qP); (apply ol_val; rfl; apply s_call; rfl; exact gf_43; (intro w' hw'; exact body_spec hw'.le rfl htl (hst.mono hL22)); ((intro v new h; obtain ⟨r59, A59, c59, s59, rfl, rfl, so59⟩ := h))); (apply ol_val; rfl; apply s_callM (xs := [stB sb ro 4 bk nv.length (.slice ta' tr.length tc') (.slice (some ⟨bk29, 0, none⟩) nv.length nv.length) none ([] : List LM).length 0, ⟨none, flat LM.enc [] ++ [], 28⟩]); rfl; exact gf_42; (focus ((repeat (first | exact Pk.nil | (apply Pk.cons; (repeat (first | exact Spl.here | apply Spl.there))))); done)); (intro w' M2 hw' hrd; exact missing_spec hrd.lw hrd.ok hrd.sep hrd.nd (SO.nil 5) (by simp) (by omega) (SlA.inV (r := some bk29) (A := none) (sp := []) (T := 3) (eK_length .i64) (hrd.row (by (repeat (first | exact Has.here | apply Has.there)))) (fun h => by cases h)) 1 (bs := bodyP tr) rfl (by omega) hbb (SlA.inV (eK_length .u8) (hrd.row (by (repeat (first | exact Has.here | apply Has.there)))) (fun h => SO.emp so59 h))); (intro v F60 ys M60 h hl60 hL60 hF60; obtain ⟨ms, rr', co', spo', hms, hval, rfl, so'⟩ := h)); (apply ol_nil))
      | (refine cw_isreg 12 ?_; refine cw_draw (id := 12) 11 (.mv 0 (.mv 1 (.mv 2 (.mv 3 (.mv 4 (.mv 5 (.mv 6 (.mv 7 (.fx 8 (.mv 9 (.mv 10 (PT.nil)))))))))))) mixed (by kernel_rfl) ?_; (apply od_mv; rfl; rfl; apply s_move; rfl); (apply od_mv; rfl; rfl; apply s_nilCheck; rfl); (apply od_mv; rfl; rfl; apply s_fieldAddr'; rfl; exact fd_70_0; exact qZ); (apply od_mv; rfl; rfl; apply s_loadN; rfl; rfl; exact sz_25; exact qQ); (apply od_mv; rfl; rfl; apply s_move; rfl); (apply od_mv; rfl; rfl; apply s_nilCheck; rfl); (apply od_mv; rfl; rfl; apply s_fieldAddr'; rfl; exact fd_70_1; exact qZ); (apply od_mv; rfl; rfl; apply s_load1; rfl; rfl; exact qP); (apply od_fx; (first | exact Wk.refl _ _ | exact qW); (apply fx_eff; rfl; apply s_storeN; rfl; rfl; exact sz_25; rfl; rfl; exact qN; exact qN)); (apply od_mv; rfl; rfl; apply s_assign; rfl); (apply od_mv; rfl; rfl; apply s_assign; rfl); (apply od_nil; (first | exact Wk.refl _ _ | exact qW)); (apply ol_nil))
      | (refine cw_isreg 12 ?_; refine cw_drawW (id := 12) (own0 := [stB sb ro 4 bk nv.length (.slice ta' tr.length tc') (.slice (some ⟨bk29, 0, none⟩) nv.length nv.length) rr' ([] ++ ms).length co']) 11 (.mv 0 (.mv 1 (.mv 2 (.mv 3 (.mv 4 (.mv 5 (.mv 6 (.mv 7 (.fx 8 (.mv 9 (.mv 10 (PT.nil)))))))))))) mixed (by kernel_rfl) (by (first | exact Wk.refl _ _ | exact qW)) ?_; (apply od_mv; rfl; rfl; apply s_move; rfl); (apply od_mv; rfl; rfl; apply s_nilCheck; rfl); (apply od_mv; rfl; rfl; apply s_fieldAddr'; rfl; exact fd_70_0; exact qZ); (apply od_mv; rfl; rfl; apply s_loadN; rfl; rfl; exact sz_25; exact qQ); (apply od_mv; rfl; rfl; apply s_move; rfl); (apply od_mv; rfl; rfl; apply s_nilCheck; rfl); (apply od_mv; rfl; rfl; apply s_fieldAddr'; rfl; exact fd_70_1; exact qZ); (apply od_mv; rfl; rfl; apply s_load1; rfl; rfl; exact qP); (apply od_fx; (first | exact Wk.refl _ _ | exact qW); (apply fx_eff; rfl; apply s_storeN; rfl; rfl; exact sz_25; rfl; rfl; exact qN; exact qN)); (apply od_mv; rfl; rfl; apply s_assign; rfl); (apply od_mv; rfl; rfl; apply s_assign; rfl); (apply od_nil; (first | exact Wk.refl _ _ | exact qW)); (apply ol_nil))
      | (apply cw_cond_true; rfl; exact qA)
      | (apply cw_cond_false; rfl; exact qA)
      | apply cw_skip
      | apply cw_ret
      | apply cw_block
      | apply cw_exit
    refine endsW [⟨rr', flat LM.enc ([] ++ ms) ++ spo', 28⟩] [⟨some bk29, flat (eK .i64) nv ++ [], 3⟩] (View.join F22 F60) (RVal.cellN rfl rfl rfl (RdN.own (by (repeat (first | exact Has.here | apply Has.there))) (by focus ((repeat (first | rfl | constructor)); done))) (RVal.tmp rfl (RVal.tmp rfl RVal.nil))) (by exact qK) (View.join_le (hL22.trans hl60) hL60) (View.freshM_join hF22 hF60) (fun F hF hz => ?_)
    exact ⟨_, _, rfl, SetR.mk (s := ⟨ro, 4, bk, nv.length, tr, nv⟩) (hst.mono ((View.join_l _ _).trans hF)) (SlA.inV (r := some bk29) (A := none) (eK_length .i64) (hz _ (List.Mem.head _)) (fun h => by cases h)) hl1 (by dsimp only; omega), ⟨rr', co', spo', ms, rfl, rfl, so', (fun m hm => (hms m hm).mono ((View.join_r (hL22.trans hl60) hL60).trans hF)), hval⟩⟩
  · rw [if_neg h1]
    repeat' first
      | apply cw_seq
      | (refine cw_region_id 0 ?_; (apply ol_val; rfl; first | (apply s_boxN; rfl; intro bk1) | (apply s_box1; rfl; rfl; intro bk1)); (apply ol_val; rfl; apply s_alloc; exact zb_25; exact qN; intro bk2); (apply ol_as; rfl; rfl); (apply ol_as; rfl; rfl); (apply ol_nil))
      | (refine cw_region_id 1 ?_; (apply ol_ldN; rfl; rfl; rfl; exact sz_25; exact qQ); (apply ol_val; rfl; apply s_callv; rfl; exact gf_24; (intro w' hw'; exact kv w' hw'.le)); (apply ol_val; rfl; apply stp_pur; first | (apply s_not_t; rfl; exact qA) | (apply s_not_f; rfl; exact qA) | (apply s_not; rfl)); (apply ol_as; rfl; rfl); (apply ol_nil))
      | (refine cw_region_id 3 ?_; (apply ol_fa; rfl; rfl; exact fd_25_2; exact qZ); (apply ol_ld; rfl; rfl; rfl; exact qP); (apply ol_val; rfl; apply stp_cmp; apply s_neq; rfl; rfl; all_goals (intro hc14; try (exfalso; (first | exact hc14 rfl | omega)))); all_goals (apply ol_mv; rfl; rfl); all_goals (first | (apply ol_gskip; rfl; rfl; exact qA; rfl) | (apply ol_gval; rfl; rfl; rfl; exact qA; apply stp_pur; apply s_fieldAddr'; rfl; exact fd_25_1; exact qZ)); all_goals (first | (apply ol_gskip; rfl; rfl; exact qA; rfl) | (apply ol_gval; rfl; rfl; rfl; exact qA; apply stp_pur; apply s_load1; rfl; rfl; exact qP)); all_goals (first | (apply ol_gskip; rfl; rfl; exact qA; rfl) | (apply ol_gval; rfl; rfl; rfl; exact qA; apply stp_cmp; apply s_neq; rfl; rfl; all_goals (intro hc18; try (exfalso; (first | exact hc18 rfl | omega))))); all_goals (apply ol_val; rfl; apply stp_pur; first | (apply s_pick_t; rfl; exact qA; rfl) | (apply s_pick_f; rfl; exact qA; rfl)); all_goals (apply ol_as; rfl; rfl); all_goals (apply ol_nil))
      | (refine cw_region_id 5 ?_; (apply ol_ldN; rfl; rfl; rfl; exact sz_25; exact qQ); (apply ol_val; rfl; apply s_callM (xs := []); rfl; exact gf_33; (focus ((repeat (first | exact Pk.nil | (apply Pk.cons; (repeat (first | exact Spl.here | apply Spl.there))))); done)); (intro w' M2 hw' hrd; exact ho w' hw'.le); (intro v F22 ys M22 h hl22 hL22 hF22; obtain ⟨sb, ta', tb', to', tc', rv, Av, cv, spv, hst, rfl, rfl, so⟩ := h)); (apply ol_as; rfl; rfl); (apply ol_nil))
      | (refine cw_region_id 6 ?_; (apply ol_mv; rfl; rfl); (apply ol_mv; rfl; rfl); (apply ol_val; rfl; apply stp_pur; apply s_nilCheck; rfl); (apply ol_fa; rfl; rfl; exact fd_70_0; exact qZ); (apply ol_fa; rfl; rfl; exact fd_25_3; exact qZ); (apply ol_ld; rfl; rfl; rfl; exact qP); (apply ol_val; rfl; apply s_makeB; rfl; rfl; exact el_23; exact sz_3; exact zb_3; rfl; exact by_3; omega; omega; omega; intro bk29); (apply ol_val; rfl; apply stp_pur; apply s_nilCheck; rfl); (apply ol_fa; rfl; rfl; exact fd_70_0; exact qZ); (apply ol_fa; rfl; rfl; exact fd_25_5; exact qZ); (apply ol_eff; apply s_store1; rfl; rfl; exact sz_23; rfl; exact qN; (first | exact qN | (exact hset (by first | rfl | omega)) | (apply SetAt.set; exact qO))); (apply ol_nil))
      | (refine cw_region_id 7 ?_; (apply ol_mv; rfl; rfl); (apply ol_val; rfl; apply stp_pur; apply s_nilCheck; rfl); (apply ol_fa; rfl; rfl; exact fd_70_0; exact qZ); (apply ol_fa; rfl; rfl; exact fd_25_5; exact qZ); (apply ol_ld; rfl; rfl; rfl; exact qP); (apply ol_val; rfl; apply stp_pur; first | (apply s_indexK; rfl; rfl; exact el_23; exact sz_3; (first | rfl); omega) | (apply s_indexO; rfl; rfl; exact el_23; exact sz_3; (first | rfl); omega)); (apply ol_eff; apply s_store1; rfl; rfl; exact sz_3; rfl; exact qN; (first | exact qN | (exact hset (by first | rfl | omega)) | (apply SetAt.set; exact qO))); (apply ol_nil))
      | (refine cw_region_id 8 ?_; (apply ol_mv; rfl; rfl); (apply ol_val; rfl; apply stp_pur; apply s_nilCheck; rfl); (apply ol_fa; rfl; rfl; exact fd_70_0; exact qZ); (apply ol_fa; rfl; rfl; exact fd_25_1; exact qZ); (apply ol_eff; apply s_store1; rfl; rfl; exact sz_3; rfl; exact qN; (first | exact qN | (exact hset (by first | rfl | omega)) | (apply SetAt.set; exact qO))); (apply ol_nil))
      | (refine cw_region_id 9 ?_; (apply ol_mv; rfl; rfl); (apply ol_val; rfl; apply stp_pur; apply s_nilCheck; rfl); (apply ol_fa; rfl; rfl; exact fd_70_0; exact qZ); (apply ol_fa; rfl; rfl; exact fd_25_3; exact qZ); (apply ol_ld; rfl; rfl; rfl; exact qP); (apply ol_val; rfl; apply stp_cmp; apply s_eql; rfl; rfl; all_goals (intro hc48; try (exfalso; (first | exact hc48 rfl | omega)))); all_goals (apply ol_nil))
      | (refine cw_region_id 11 ?_; (apply ol_mv; rfl; rfl); (apply ol_mv; rfl; rfl); (apply ol_val; rfl; apply stp_pur; apply s_nilCheck; rfl); (apply ol_fa; rfl; rfl; exact fd_70_0; exact qZ); (apply ol_fa; rfl; rfl; exact fd_25_4; exact qZ); (apply ol_ld; rfl; rfl; rfl; exact qP); (apply ol_val; rfl; apply s_call; rfl; exact gf_43; (intro w' hw'; exact body_spec hw'.le rfl htl (hst.mono hL22)); ((intro v new h; obtain ⟨r59, A59, c59, s59, rfl, rfl, so59⟩ := h))); (apply ol_val; rfl; apply s_callM (xs := [stB sb ro 1 bk nv.length (.slice ta' tr.length tc') (.slice (some ⟨bk29, 0, none⟩) nv.length nv.length) none ([] : List LM).length 0, ⟨none, flat LM.enc [] ++ [], 28⟩]); rfl; exact gf_42; (focus ((repeat (first | exact Pk.nil | (apply Pk.cons; (repeat (first | exact Spl.here | apply Spl.there))))); done)); (intro w' M2 hw' hrd; exact missing_spec hrd.lw hrd.ok hrd.sep hrd.nd (SO.nil 5) (by simp) (by omega) (SlA.inV (r := some bk29) (A := none) (sp := []) (T := 3) (eK_length .i64) (hrd.row (by (repeat (first | exact Has.here | apply Has.there)))) (fun h => by cases h)) 1 (bs := bodyP tr) rfl (by omega) hbb (SlA.inV (eK_length .u8) (hrd.row (by (repeat (first | exact Has.here | apply Has.there)))) (fun h => SO.emp so59 h))); (intro v F60 ys M60 h hl60 hL60 hF60; obtain ⟨ms, rr', co', spo', hms, hval, rfl, so'⟩ := h)); (apply ol_nil))
      | (refine cw_isreg 12 ?_; refine cw_draw (id := 12) 11 (.mv 0 (.mv 1 (.mv 2 (.mv 3 (.mv 4 (.mv 5 (.mv 6 (.mv 7 (.fx 8 (.mv 9 (.mv 10 (PT.nil)))))))))))) mixed (by kernel_rfl) ?_; (apply od_mv; rfl; rfl; apply s_move; rfl); (apply od_mv; rfl; rfl; apply s_nilCheck; rfl); (apply od_mv; rfl; rfl; apply s_fieldAddr'; rfl; exact fd_70_0; exact qZ); (apply od_mv; rfl; rfl; apply s_loadN; rfl; rfl; exact sz_25; exact qQ); (apply od_mv; rfl; rfl; apply s_move; rfl); (apply od_mv; rfl; rfl; apply s_nilCheck; rfl); (apply od_mv; rfl; rfl; apply s_fieldAddr'; rfl; exact fd_70_1; exact qZ); (apply od_mv; rfl; rfl; apply s_load1; rfl; rfl; exact qP); (apply od_fx; (first | exact Wk.refl _ _ | exact qW); (apply fx_eff; rfl; apply s_storeN; rfl; rfl; exact sz_25; rfl; rfl; exact qN; exact qN)); (apply od_mv; rfl; rfl; apply s_assign; rfl); (apply od_mv; rfl; rfl; apply s_assign; rfl); (apply od_nil; (first | exact Wk.refl _ _ | exact qW)); (apply ol_nil))
      | (refine cw_isreg 12 ?_; refine cw_drawW (id := 12) (own0 := [stB sb ro 1 bk nv.length (.slice ta' tr.length tc') (.slice (some ⟨bk29, 0, none⟩) nv.length nv.length) rr' ([] ++ ms).length co']) 11 (.mv 0 (.mv 1 (.mv 2 (.mv 3 (.mv 4 (.mv 5 (.mv 6 (.mv 7 (.fx 8 (.mv 9 (.mv 10 (PT.nil)))))))))))) mixed (by kernel_rfl) (by (first | exact Wk.refl _ _ | exact qW)) ?_; (apply od_mv; rfl; rfl; apply s_move; rfl); (apply od_mv; rfl; rfl; apply s_nilCheck; rfl); (apply od_mv; rfl; rfl; apply s_fieldAddr'; rfl; exact fd_70_0; exact qZ); (apply od_mv; rfl; rfl; apply s_loadN; rfl; rfl; exact sz_25; exact qQ); (apply od_mv; rfl; rfl; apply s_move; rfl); (apply od_mv; rfl; rfl; apply s_nilCheck; rfl); (apply od_mv; rfl; rfl; apply s_fieldAddr'; rfl; exact fd_70_1; exact qZ); (apply od_mv; rfl; rfl; apply s_load1; rfl; rfl; exact qP); (apply od_fx; (first | exact Wk.refl _ _ | exact qW); (apply fx_eff; rfl; apply s_storeN; rfl; rfl; exact sz_25; rfl; rfl; exact qN; exact qN)); (apply od_mv; rfl; rfl; apply s_assign; rfl); (apply od_mv; rfl; rfl; apply s_assign; rfl); (apply od_nil; (first | exact Wk.refl _ _ | exact qW)); (apply ol_nil))
      | (apply cw_cond_true; rfl; exact qA)
      | (apply cw_cond_false; rfl; exact qA)
      | apply cw_skip
      | apply cw_ret
      | apply cw_block
      | apply cw_exit
    refine endsW [⟨rr', flat LM.enc ([] ++ ms) ++ spo', 28⟩] [⟨some bk29, flat (eK .i64) nv ++ [], 3⟩] (View.join F22 F60) (RVal.cellN rfl rfl rfl (RdN.own (by (repeat (first | exact Has.here | apply Has.there))) (by focus ((repeat (first | rfl | constructor)); done))) (RVal.tmp rfl (RVal.tmp rfl RVal.nil))) (by exact qK) (View.join_le (hL22.trans hl60) hL60) (View.freshM_join hF22 hF60) (fun F hF hz => ?_)
    exact ⟨_, _, rfl, SetR.mk (s := ⟨ro, 1, bk, nv.length, tr, nv⟩) (hst.mono ((View.join_l _ _).trans hF)) (SlA.inV (r := some bk29) (A := none) (eK_length .i64) (hz _ (List.Mem.head _)) (fun h => by cases h)) hl1 (by dsimp only; omega), ⟨rr', co', spo', ms, rfl, rfl, so', (fun m hm => (hms m hm).mono ((View.join_r (hL22.trans hl60) hL60).trans hF)), hval⟩⟩
end Go.Proofs.Ytagmoecojmlogaa
namespace Go.Proofs.Ytagmoecojmlogaa
set_option maxRecDepth 20000
set_option linter.unusedSimpArgs false
set_option linter.unusedVariables false
open Go Go.Fw
theorem map_bank {bs : List LS} {y : YS} (h : bs.map LS.val = y.bs) {i : Nat} (hi : i < bs.length) : bs[i].val = bank y i := by
  unfold bank
  rw [← h, List.getD_eq_getElem?_getD, List.getElem?_map, List.getElem?_eq_getElem hi]
  rfl
theorem map_setV {bs : List LS} {l : List SV} (h : bs.map LS.val = l) {i : Nat} {s : LS} : (bs.set i s).map LS.val = l.set i s.val := by rw [← h, List.map_set]
theorem mem_setV {bs : List LS} {N : View} (h : ∀ s ∈ bs, LsV N s) {i : Nat} {x : LS} (hx : LsV N x) : ∀ s ∈ bs.set i x, LsV N s := fun s hs => (List.mem_or_eq_of_mem_set hs).elim (h s) (fun e => e ▸ hx)
end Go.Proofs.Ytagmoecojmlogaa
namespace Go.Proofs.Ytagmoecojmlogaa
set_option maxRecDepth 20000
set_option linter.unusedSimpArgs false
set_option linter.unusedVariables false
open Go Go.Fw
attribute [local irreducible] CW OL OD FX Stp FnC FnV FnA FnM Ret svB noneV hz bodyP strOf mvB coordP partP recvP beginP tickP newP mnP dcP
set_option maxHeartbeats 1600000
theorem tick_sys {M : View} {w : World} (hM : View.le M (View.of w)) {y : YS} {sb : Nat} {xs : List OB} (h : SysR y sb M xs) (hok : ∀ x ∈ xs, x.ok w) (hsep : ∀ x ∈ xs, ∀ b, x.ref = some b → M b = none) (hnd : (refs xs).Nodup)
    {i : Nat} (hi : i < y.bs.length) (he : (tickP (bank y i)).2.2 = 0) (hl : (tickP (bank y i)).2.1.length ≤ y.bs.length) (hb : y.bs.length ≤ 8) (hw : y.way.length ≤ 10000) :
    FnM Try.prog 30 [.pointer (some ⟨sb, 0, none⟩), .int .i64 (i : Nat)] w xs (fun v F ys => v = .bool true ∧ ∀ N, View.le M N → View.le F N → SysR (tickY y i) sb N ys) := by
  obtain ⟨rb, cb, spb, rw_, ow, Aw, cw, fr, spw, bs, ms, rfl, h2, h3, h4, h5, h6, h7⟩ := h
  have hbl : bs.length = y.bs.length := by rw [← h2, List.length_map]
  have hml : ms.length = y.way.length := by rw [← h4, List.length_map]
  have hib : i < bs.length := by omega
  have hv := map_bank h2 hib
  have hsi := h3 bs[i] (List.getElem_mem hib)
  have hg := getN_flat LS.enc_length (sp := spb) hib
  have hset := fun v => setN_flat (v := v) LS.enc_length (sp := spb) hib
  have kt := fun (w' : World) (h : View.le M (View.of w')) => tick_spec h hsi
  unfold tickY
  rw [hv] at kt
  clear hv
  generalize bs[i] = s at *
  generalize tickP (bank y i) = p at *
  obtain ⟨p, ml, e⟩ := p
  dsimp only at he hl
  subst he
  unfold OpR at kt
  obtain ⟨ro, ph, bk, bn, ⟨tr, ta, tb, to, tc⟩, ⟨vo, va, vb, vo', vc⟩⟩ := s
  unfold LS.enc at hg kt
  dsimp only at hg kt ⊢
  refine enterW (M := M) Try.func30 rfl rfl rfl rfl hM hok hsep hnd ?_
  repeat' first
    | apply cw_seq
    | (refine cw_region_id 0 ?_; (apply ol_as; rfl; rfl); (apply ol_nil))
    | (refine cw_region_id 1 ?_; (apply ol_mv; rfl; rfl); (apply ol_val; rfl; apply stp_pur; apply s_nilCheck; rfl); (apply ol_fa; rfl; rfl; exact fd_56_0; exact qZ); (apply ol_ld; rfl; rfl; rfl; (first | exact qP | (apply RdN.own; exact qN; exact hg))); (apply ol_mv; rfl; rfl); (apply ol_val; rfl; apply stp_pur; first | (apply s_indexK; rfl; rfl; exact el_54; exact sz_25; (first | rfl); omega) | (apply s_indexO; rfl; rfl; exact el_54; exact sz_25; (first | rfl); omega)); (apply ol_ldN; rfl; rfl; rfl; exact sz_25; (first | exact qQ | (apply RdN.own; exact qN; exact hg))); (apply ol_val; rfl; apply s_callM (xs := []); rfl; exact gf_20; (focus ((repeat (first | exact Pk.nil | (apply Pk.cons; (repeat (first | exact Spl.here | apply Spl.there))))); done)); (intro w' M2 hw' hrd; exact kt w' hw'.le); (intro v F16 ys M16 h hl16 hL16 hF16; obtain ⟨u, l16, rfl, hst16, hm16, rfl⟩ := h; obtain ⟨ta16, tb16, to16, tc16, va16, vb16, vo16, vc16, rfl, st16, sv16, lt16, lv16⟩ := SetR.out hst16; obtain ⟨xs16, a16, b16, o16, c16, rfl, sm16, hlm16, hvm16, hl216⟩ := hm16; have smX := sm16.mono hL16)); (apply ol_mv; rfl; rfl); (apply ol_ex; rfl; rfl; rfl); (apply ol_ex; rfl; rfl; rfl); (apply ol_ex; rfl; rfl; rfl); (apply ol_val; rfl; apply s_alloc; exact zb_25; exact qN; intro bk5); (apply ol_eff; first | (apply s_storeN; rfl; rfl; exact sz_25; rfl; rfl; exact qN; exact qN) | (apply s_storeN; rfl; rfl; exact sz_25; rfl; rfl; (focus ((repeat (first | exact Repl.here | apply Repl.there)); done)); exact hset ⟨p.ro, p.ph, p.bk, p.bn, ⟨p.tr, ta16, tb16, to16, tc16⟩, ⟨p.vo, va16, vb16, vo16, vc16⟩⟩)); (apply ol_as; rfl; rfl); (apply ol_as; rfl; rfl); (apply ol_nil))
    | (refine cw_region_id 2 ?_; (apply ol_mv; rfl; rfl); (apply ol_val; rfl; apply stp_cmp; apply s_neq; rfl; rfl; all_goals (intro hc21; try (exfalso; (first | exact hc21 rfl | omega | (have := congrArg List.length hvm16; rw [List.length_map] at this; omega))))); all_goals (apply ol_mv; rfl; rfl); all_goals (first | (apply ol_gskip; rfl; rfl; exact qA; rfl) | (apply ol_gval; rfl; rfl; rfl; exact qA; apply stp_pur; apply s_move; rfl)); all_goals (first | (apply ol_gskip; rfl; rfl; exact qA; rfl) | (apply ol_gval; rfl; rfl; rfl; exact qA; apply stp_pur; apply s_len; rfl; exact el_31)); all_goals (first | (apply ol_gskip; rfl; rfl; exact qA; rfl) | (apply ol_gval; rfl; rfl; rfl; exact qA; apply stp_pur; apply s_move; rfl)); all_goals (first | (apply ol_gskip; rfl; rfl; exact qA; rfl) | (apply ol_gval; rfl; rfl; rfl; exact qA; apply stp_pur; apply s_nilCheck; rfl)); all_goals (first | (apply ol_gskip; rfl; rfl; exact qA; rfl) | (apply ol_gval; rfl; rfl; rfl; exact qA; apply stp_pur; apply s_fieldAddr'; rfl; exact fd_56_0; exact qZ)); all_goals (first | (apply ol_gskip; rfl; rfl; exact qA; rfl) | (apply ol_gval; rfl; rfl; rfl; exact qA; apply stp_pur; apply s_load1; rfl; rfl; (first | exact qP | (apply RdN.own; exact qN; exact hg)))); all_goals (first | (apply ol_gskip; rfl; rfl; exact qA; rfl) | (apply ol_gval; rfl; rfl; rfl; exact qA; apply stp_pur; apply s_len; rfl; exact el_54)); all_goals (first | (apply ol_gskip; rfl; rfl; exact qA; rfl) | (apply ol_gval; rfl; rfl; rfl; exact qA; apply stp_cmp; apply s_gtr; rfl; rfl; all_goals (intro hc30; try (exfalso; (first | exact hc30 rfl | omega | (have := congrArg List.length hvm16; rw [List.length_map] at this; omega)))))); all_goals (apply ol_val; rfl; apply stp_pur; first | (apply s_pick_t; rfl; exact qA; rfl) | (apply s_pick_f; rfl; exact qA; rfl)); all_goals (apply ol_nil))
    | (refine cw_region_id 3 ?_; (apply ol_as; rfl; rfl); (apply ol_nil))
    | (refine cw_isreg 4 ?_; refine cw_draw (id := 4) 7 (.mv 0 (.mv 1 (.mv 2 (.mv 3 (.mv 4 (.mv 5 (.mv 6 (PT.nil)))))))) mixed (by kernel_rfl) ?_; (apply od_mv; rfl; rfl; apply s_move; rfl); (apply od_mv; rfl; rfl; apply s_nilCheck; rfl); (apply od_mv; rfl; rfl; apply s_fieldAddr'; rfl; exact fd_56_0; exact qZ); (apply od_mv; rfl; rfl; apply s_load1; rfl; rfl; (first | exact qP | (apply RdN.own; exact qN; exact hg))); (apply od_mv; rfl; rfl; apply s_move; rfl); (apply od_mv; rfl; rfl; apply s_loadN; rfl; rfl; exact sz_25; (first | exact qQ | (apply RdN.own; exact qN; exact hg))); (apply od_mv; rfl; rfl; first | (apply s_indexK; rfl; rfl; exact el_54; exact sz_25; (first | rfl); omega) | (apply s_indexO; rfl; rfl; exact el_54; exact sz_25; (first | rfl); omega)); (apply od_nil; (first | exact Wk.refl _ _ | exact qW)); (apply ol_eff; first | (apply s_storeN; rfl; rfl; exact sz_25; rfl; rfl; exact qN; exact qN) | (apply s_storeN; rfl; rfl; exact sz_25; rfl; rfl; (focus ((repeat (first | exact Repl.here | apply Repl.there)); done)); exact hset ⟨p.ro, p.ph, p.bk, p.bn, ⟨p.tr, ta16, tb16, to16, tc16⟩, ⟨p.vo, va16, vb16, vo16, vc16⟩⟩)); (apply ol_nil))
    | (refine cw_region_id 5 ?_; (apply ol_mv; rfl; rfl); (apply ol_mv; rfl; rfl); (apply ol_val; rfl; apply stp_pur; apply s_nilCheck; rfl); (apply ol_fa; rfl; rfl; exact fd_56_1; exact qZ); (apply ol_ld; rfl; rfl; rfl; (first | exact qP | (apply RdN.own; exact qN; exact hg))); (apply ol_mv; rfl; rfl); (apply ol_val; rfl; apply s_append_f; rfl; rfl; exact qS; exact el_31; exact sz_28; exact zb_28; rfl; exact by_28; assumption; exact smX.at_; exact RdN.view (SlA.all LM.enc_length smX); exact ones_flat LM.ones _; (first | omega | (simp; omega)); (first | omega | (simp; omega)); (intro rkA okA frA skA ckA sfA)); all_goals (apply ol_val; rfl; apply stp_pur; apply s_nilCheck; rfl); all_goals (apply ol_fa; rfl; rfl; exact fd_56_1; exact qZ); all_goals (apply ol_eff; apply s_store1; rfl; rfl; exact sz_31; rfl; exact qN; exact qT); all_goals (apply ol_nil))
    | (refine cw_region_id 6 ?_; (apply ol_as; rfl; rfl); (apply ol_nil))
    | (apply cw_cond_true; rfl; exact qA)
    | (apply cw_cond_false; rfl; exact qA)
    | apply cw_skip
    | apply cw_ret
    | apply cw_block
    | apply cw_exit
  refine endsW [⟨some sb, [.slice (some ⟨rb, 0, none⟩) bs.length cb, .slice (bof rkA okA Aw) (ms.length + xs16.length) ckA], 56⟩, ⟨some rb, flat LS.enc (bs.set i ⟨p.ro, p.ph, p.bk, p.bn, ⟨p.tr, ta16, tb16, to16, tc16⟩, ⟨p.vo, va16, vb16, vo16, vc16⟩⟩) ++ spb, 25⟩, ⟨rkA, frA ++ (flat LM.enc ms ++ flat LM.enc xs16 ++ skA), 28⟩] [] F16 (RVal.tmp rfl RVal.nil) (by exact qK) hL16 hF16 (fun F hF _ => ⟨rfl, fun N hMN hFN => ?_⟩)
  refine ⟨rb, cb, spb, rkA, okA, Aw, ckA, frA, skA, bs.set i ⟨p.ro, p.ph, p.bk, p.bn, ⟨p.tr, ta16, tb16, to16, tc16⟩, ⟨p.vo, va16, vb16, vo16, vc16⟩⟩, ms ++ xs16, ?_, map_setV h2, mem_setV (fun s hs => (h3 s hs).mono hMN) ⟨st16.mono (hF.trans hFN), sv16.mono (hF.trans hFN), lt16, lv16⟩, by rw [List.map_append, h4, hvm16], fun m hm => (List.mem_append.1 hm).elim (fun h => (h5 m h).mono hMN) (fun h => (hlm16 m h).mono (hF.trans hFN)), ?_, ?_⟩
  · rw [List.length_set, List.length_append, flat_append]
  · rw [List.length_set]
    exact ⟨by rw [flat_length LS.enc_length, List.length_set], by have := h6.hcap; rw [flat_length LS.enc_length] at this ⊢; rw [List.length_set]; exact this, h6.hle, h6.hnone⟩
  · rw [List.length_append, flat_append]; exact sfA
theorem deliver_sys {M : View} {w : World} (hM : View.le M (View.of w)) {y : YS} {sb : Nat} {xs : List OB} (h : SysR y sb M xs) (hok : ∀ x ∈ xs, x.ok w) (hsep : ∀ x ∈ xs, ∀ b, x.ref = some b → M b = none) (hnd : (refs xs).Nodup)
    {m : LM} (hm : LmV M m) {i : Nat} (hi : i < y.bs.length) (hto : m.to = (i : Nat)) (he : (recvP (bank y i) m.val).2.2 = 0) (hl : (recvP (bank y i) m.val).2.1.length ≤ y.bs.length) (hb : y.bs.length ≤ 8) (hw : y.way.length ≤ 10000) :
    FnM Try.prog 31 [.pointer (some ⟨sb, 0, none⟩), .agg m.enc.toArray] w xs (fun v F ys => v = .bool true ∧ ∀ N, View.le M N → View.le F N → SysR (dlvY y m.val) sb N ys) := by
  obtain ⟨rb, cb, spb, rw_, ow, Aw, cw, fr, spw, bs, ms, rfl, h2, h3, h4, h5, h6, h7⟩ := h
  have hbl : bs.length = y.bs.length := by rw [← h2, List.length_map]
  have hml : ms.length = y.way.length := by rw [← h4, List.length_map]
  have hib : i < bs.length := by omega
  have hv := map_bank h2 hib
  have hsi := h3 bs[i] (List.getElem_mem hib)
  have hg := getN_flat LS.enc_length (sp := spb) hib
  have hset := fun v => setN_flat (v := v) LS.enc_length (sp := spb) hib
  have kt := fun (w' : World) (h : View.le M (View.of w')) => receive_spec h hsi hm
  unfold dlvY
  rw [show m.val.to.toNat = i from by show m.to.toNat = i; omega]
  rw [hv] at kt
  clear hv
  generalize bs[i] = s at *
  generalize recvP (bank y i) m.val = p at *
  obtain ⟨p, ml, e⟩ := p
  dsimp only at he hl
  subst he
  unfold OpR at kt
  obtain ⟨ro, ph, bk, bn, ⟨tr, ta, tb, to, tc⟩, ⟨vo, va, vb, vo', vc⟩⟩ := s
  obtain ⟨mf, mt, mk, mn, ⟨mb, ba, bb, bo, bc⟩⟩ := m
  dsimp only at hto
  subst hto
  unfold LS.enc at hg kt
  unfold LM.enc at kt ⊢
  dsimp only at hg kt ⊢
  refine enterW (M := M) Try.func31 rfl rfl rfl rfl hM hok hsep hnd ?_
  repeat' first
    | apply cw_seq
    | (refine cw_region_id 0 ?_; (apply ol_val; rfl; first | (apply s_boxN; rfl; intro bk3) | (apply s_box1; rfl; rfl; intro bk3)); (apply ol_as; rfl; rfl); (apply ol_nil))
    | (refine cw_isreg 1 ?_; refine cw_draw (id := 1) 13 (.mv 0 (.mv 1 (.mv 2 (.mv 3 (.mv 4 (.mv 5 (.mv 6 (.mv 7 (.mv 8 (.mv 9 (.mv 10 (.mv 11 (.mv 12 (PT.nil)))))))))))))) mixed (by kernel_rfl) ?_; (apply od_mv; rfl; rfl; apply s_fieldAddr'; rfl; exact fd_28_1; exact qZ); (apply od_mv; rfl; rfl; apply s_load1; rfl; rfl; (first | exact qP | (apply RdN.own; exact qN; exact hg))); (apply od_cmp; rfl; rfl; apply s_lss; rfl; rfl; all_goals (intro hc10; try (exfalso; (first | exact hc10 rfl | omega | (have := congrArg List.length hvm31; rw [List.length_map] at this; omega))))); all_goals (apply od_mv; rfl; rfl; apply s_move; rfl); all_goals (first | (apply od_gskip; rfl; rfl; rfl; exact qA; rfl) | (apply od_gmv; rfl; rfl; rfl; exact qA; rfl; apply s_fieldAddr'; rfl; exact fd_28_1; exact qZ)); all_goals (first | (apply od_gskip; rfl; rfl; rfl; exact qA; rfl) | (apply od_gmv; rfl; rfl; rfl; exact qA; rfl; apply s_load1; rfl; rfl; (first | exact qP | (apply RdN.own; exact qN; exact hg)))); all_goals (first | (apply od_gskip; rfl; rfl; rfl; exact qA; rfl) | (apply od_gmv; rfl; rfl; rfl; exact qA; rfl; apply s_move; rfl)); all_goals (first | (apply od_gskip; rfl; rfl; rfl; exact qA; rfl) | (apply od_gmv; rfl; rfl; rfl; exact qA; rfl; apply s_nilCheck; rfl)); all_goals (first | (apply od_gskip; rfl; rfl; rfl; exact qA; rfl) | (apply od_gmv; rfl; rfl; rfl; exact qA; rfl; apply s_fieldAddr'; rfl; exact fd_56_0; exact qZ)); all_goals (first | (apply od_gskip; rfl; rfl; rfl; exact qA; rfl) | (apply od_gmv; rfl; rfl; rfl; exact qA; rfl; apply s_load1; rfl; rfl; (first | exact qP | (apply RdN.own; exact qN; exact hg)))); all_goals (first | (apply od_gskip; rfl; rfl; rfl; exact qA; rfl) | (apply od_gmv; rfl; rfl; rfl; exact qA; rfl; apply s_len; rfl; exact el_54)); all_goals (first | (apply od_gskip; rfl; rfl; rfl; exact qA; rfl) | (apply od_gcmp; rfl; rfl; rfl; exact qA; rfl; apply s_geq; rfl; rfl; all_goals (intro hc19; try (exfalso; (first | exact hc19 rfl | omega | (have := congrArg List.length hvm31; rw [List.length_map] at this; omega)))))); all_goals (apply od_mv; rfl; rfl; first | (apply s_pick_t; rfl; exact qA; rfl) | (apply s_pick_f; rfl; exact qA; rfl)); all_goals (apply od_nil; (first | exact Wk.refl _ _ | exact qW)); all_goals (apply ol_nil))
    | (refine cw_region_id 2 ?_; (apply ol_as; rfl; rfl); (apply ol_nil))
    | (refine cw_isreg 3 ?_; refine cw_draw (id := 3) 18 (.mv 0 (.mv 1 (.mv 2 (.mv 3 (.mv 4 (.mv 5 (.mv 6 (.mv 7 (.mv 8 (.br 9 (.mv 10 (.mv 11 (.mv 12 (.mv 13 (.fx 14 (.fx 15 (.mv 16 (.mv 17 (PT.nil))))))))) 14 (.fx 9 (.mv 10 (.mv 11 (.mv 12 (.mv 13 (.fx 15 (.mv 16 (.mv 17 (PT.nil))))))))))))))))))) mixed (by kernel_rfl) ?_; (apply od_mv; rfl; rfl; apply s_move; rfl); (apply od_mv; rfl; rfl; apply s_nilCheck; rfl); (apply od_mv; rfl; rfl; apply s_fieldAddr'; rfl; exact fd_56_0; exact qZ); (apply od_mv; rfl; rfl; apply s_load1; rfl; rfl; (first | exact qP | (apply RdN.own; exact qN; exact hg))); (apply od_mv; rfl; rfl; apply s_fieldAddr'; rfl; exact fd_28_1; exact qZ); (apply od_mv; rfl; rfl; apply s_load1; rfl; rfl; (first | exact qP | (apply RdN.own; exact qN; exact hg))); (apply od_mv; rfl; rfl; first | (apply s_indexK; rfl; rfl; exact el_54; exact sz_25; (first | rfl); omega) | (apply s_indexO; rfl; rfl; exact el_54; exact sz_25; (first | rfl); omega)); (apply od_mv; rfl; rfl; apply s_loadN; rfl; rfl; exact sz_25; (first | exact qQ | (apply RdN.own; exact qN; exact hg))); (apply od_mv; rfl; rfl; apply s_loadN; rfl; rfl; exact sz_28; (first | exact qQ | (apply RdN.own; exact qN; exact hg))); (apply od_br; (first | exact Wk.refl _ _ | exact qW)); all_goals (first | (refine fx_at 9 ?_; (apply fx_val; rfl; rfl; apply s_callM (xs := []); rfl; exact gf_10; (focus ((repeat (first | exact Pk.nil | (apply Pk.cons; (repeat (first | exact Spl.here | apply Spl.there))))); done)); (intro w' M2 hw' hrd; exact kt w' hw'.le); (intro v F31 ys M31 h hl31 hL31 hF31; obtain ⟨u, l31, rfl, hst31, hm31, rfl⟩ := h; obtain ⟨ta31, tb31, to31, tc31, va31, vb31, vo31, vc31, rfl, st31, sv31, lt31, lv31⟩ := SetR.out hst31; obtain ⟨xs31, a31, b31, o31, c31, rfl, sm31, hlm31, hvm31, hl231⟩ := hm31; have smX := sm31.mono hL31)); (apply od_mv; rfl; rfl; apply s_move; rfl); (apply od_mv; rfl; rfl; apply s_extract; rfl; rfl); (apply od_mv; rfl; rfl; apply s_extract; rfl; rfl); (apply od_mv; rfl; rfl; apply s_extract; rfl; rfl); (apply od_fx; (first | exact Wk.refl _ _ | exact qW); (apply fx_val; rfl; rfl; apply s_alloc; exact zb_25; exact qN; intro bk5)); (apply od_fx; (first | exact Wk.refl _ _ | exact qW); (apply fx_eff; rfl; first | (apply s_storeN; rfl; rfl; exact sz_25; rfl; rfl; exact qN; exact qN) | (apply s_storeN; rfl; rfl; exact sz_25; rfl; rfl; (focus ((repeat (first | exact Repl.here | apply Repl.there)); done)); exact hset ⟨p.ro, p.ph, p.bk, p.bn, ⟨p.tr, ta31, tb31, to31, tc31⟩, ⟨p.vo, va31, vb31, vo31, vc31⟩⟩))); (apply od_mv; rfl; rfl; apply s_assign; rfl); (apply od_mv; rfl; rfl; apply s_assign; rfl); (apply od_nil; (first | exact Wk.refl _ _ | exact qW)); (apply ol_nil)) | (refine fx_at 14 ?_; (apply fx_val; rfl; rfl; apply s_alloc; exact zb_25; exact qN; intro bk5); (apply od_fx; (first | exact Wk.refl _ _ | exact qW); (apply fx_val; rfl; rfl; apply s_callM (xs := []); rfl; exact gf_10; (focus ((repeat (first | exact Pk.nil | (apply Pk.cons; (repeat (first | exact Spl.here | apply Spl.there))))); done)); (intro w' M2 hw' hrd; exact kt w' hw'.le); (intro v F31 ys M31 h hl31 hL31 hF31; obtain ⟨u, l31, rfl, hst31, hm31, rfl⟩ := h; obtain ⟨ta31, tb31, to31, tc31, va31, vb31, vo31, vc31, rfl, st31, sv31, lt31, lv31⟩ := SetR.out hst31; obtain ⟨xs31, a31, b31, o31, c31, rfl, sm31, hlm31, hvm31, hl231⟩ := hm31; have smX := sm31.mono hL31))); (apply od_mv; rfl; rfl; apply s_move; rfl); (apply od_mv; rfl; rfl; apply s_extract; rfl; rfl); (apply od_mv; rfl; rfl; apply s_extract; rfl; rfl); (apply od_mv; rfl; rfl; apply s_extract; rfl; rfl); (apply od_fx; (first | exact Wk.refl _ _ | exact qW); (apply fx_eff; rfl; first | (apply s_storeN; rfl; rfl; exact sz_25; rfl; rfl; exact qN; exact qN) | (apply s_storeN; rfl; rfl; exact sz_25; rfl; rfl; (focus ((repeat (first | exact Repl.here | apply Repl.there)); done)); exact hset ⟨p.ro, p.ph, p.bk, p.bn, ⟨p.tr, ta31, tb31, to31, tc31⟩, ⟨p.vo, va31, vb31, vo31, vc31⟩⟩))); (apply od_mv; rfl; rfl; apply s_assign; rfl); (apply od_mv; rfl; rfl; apply s_assign; rfl); (apply od_nil; (first | exact Wk.refl _ _ | exact qW)); (apply ol_nil))))
    | (refine cw_region_id 4 ?_; (apply ol_mv; rfl; rfl); (apply ol_val; rfl; apply stp_cmp; apply s_neq; rfl; rfl; all_goals (intro hc36; try (exfalso; (first | exact hc36 rfl | omega | (have := congrArg List.length hvm31; rw [List.length_map] at this; omega))))); all_goals (apply ol_mv; rfl; rfl); all_goals (first | (apply ol_gskip; rfl; rfl; exact qA; rfl) | (apply ol_gval; rfl; rfl; rfl; exact qA; apply stp_pur; apply s_move; rfl)); all_goals (first | (apply ol_gskip; rfl; rfl; exact qA; rfl) | (apply ol_gval; rfl; rfl; rfl; exact qA; apply stp_pur; apply s_len; rfl; exact el_31)); all_goals (first | (apply ol_gskip; rfl; rfl; exact qA; rfl) | (apply ol_gval; rfl; rfl; rfl; exact qA; apply stp_pur; apply s_move; rfl)); all_goals (first | (apply ol_gskip; rfl; rfl; exact qA; rfl) | (apply ol_gval; rfl; rfl; rfl; exact qA; apply stp_pur; apply s_nilCheck; rfl)); all_goals (first | (apply ol_gskip; rfl; rfl; exact qA; rfl) | (apply ol_gval; rfl; rfl; rfl; exact qA; apply stp_pur; apply s_fieldAddr'; rfl; exact fd_56_0; exact qZ)); all_goals (first | (apply ol_gskip; rfl; rfl; exact qA; rfl) | (apply ol_gval; rfl; rfl; rfl; exact qA; apply stp_pur; apply s_load1; rfl; rfl; (first | exact qP | (apply RdN.own; exact qN; exact hg)))); all_goals (first | (apply ol_gskip; rfl; rfl; exact qA; rfl) | (apply ol_gval; rfl; rfl; rfl; exact qA; apply stp_pur; apply s_len; rfl; exact el_54)); all_goals (first | (apply ol_gskip; rfl; rfl; exact qA; rfl) | (apply ol_gval; rfl; rfl; rfl; exact qA; apply stp_cmp; apply s_gtr; rfl; rfl; all_goals (intro hc45; try (exfalso; (first | exact hc45 rfl | omega | (have := congrArg List.length hvm31; rw [List.length_map] at this; omega)))))); all_goals (apply ol_val; rfl; apply stp_pur; first | (apply s_pick_t; rfl; exact qA; rfl) | (apply s_pick_f; rfl; exact qA; rfl)); all_goals (apply ol_nil))
    | (refine cw_region_id 5 ?_; (apply ol_as; rfl; rfl); (apply ol_nil))
    | (refine cw_isreg 6 ?_; refine cw_draw (id := 6) 8 (.mv 0 (.mv 1 (.mv 2 (.mv 3 (.mv 4 (.mv 5 (.mv 6 (.mv 7 (PT.nil))))))))) mixed (by kernel_rfl) ?_; (apply od_mv; rfl; rfl; apply s_move; rfl); (apply od_mv; rfl; rfl; apply s_nilCheck; rfl); (apply od_mv; rfl; rfl; apply s_fieldAddr'; rfl; exact fd_56_0; exact qZ); (apply od_mv; rfl; rfl; apply s_load1; rfl; rfl; (first | exact qP | (apply RdN.own; exact qN; exact hg))); (apply od_mv; rfl; rfl; apply s_fieldAddr'; rfl; exact fd_28_1; exact qZ); (apply od_mv; rfl; rfl; apply s_load1; rfl; rfl; (first | exact qP | (apply RdN.own; exact qN; exact hg))); (apply od_mv; rfl; rfl; apply s_loadN; rfl; rfl; exact sz_25; (first | exact qQ | (apply RdN.own; exact qN; exact hg))); (apply od_mv; rfl; rfl; first | (apply s_indexK; rfl; rfl; exact el_54; exact sz_25; (first | rfl); omega) | (apply s_indexO; rfl; rfl; exact el_54; exact sz_25; (first | rfl); omega)); (apply od_nil; (first | exact Wk.refl _ _ | exact qW)); (apply ol_eff; first | (apply s_storeN; rfl; rfl; exact sz_25; rfl; rfl; exact qN; exact qN) | (apply s_storeN; rfl; rfl; exact sz_25; rfl; rfl; (focus ((repeat (first | exact Repl.here | apply Repl.there)); done)); exact hset ⟨p.ro, p.ph, p.bk, p.bn, ⟨p.tr, ta31, tb31, to31, tc31⟩, ⟨p.vo, va31, vb31, vo31, vc31⟩⟩)); (apply ol_nil))
    | (refine cw_region_id 7 ?_; (apply ol_mv; rfl; rfl); (apply ol_mv; rfl; rfl); (apply ol_val; rfl; apply stp_pur; apply s_nilCheck; rfl); (apply ol_fa; rfl; rfl; exact fd_56_1; exact qZ); (apply ol_ld; rfl; rfl; rfl; (first | exact qP | (apply RdN.own; exact qN; exact hg))); (apply ol_mv; rfl; rfl); (apply ol_val; rfl; apply s_append_f; rfl; rfl; exact qS; exact el_31; exact sz_28; exact zb_28; rfl; exact by_28; assumption; exact smX.at_; exact RdN.view (SlA.all LM.enc_length smX); exact ones_flat LM.ones _; (first | omega | (simp; omega)); (first | omega | (simp; omega)); (intro rkA okA frA skA ckA sfA)); all_goals (apply ol_val; rfl; apply stp_pur; apply s_nilCheck; rfl); all_goals (apply ol_fa; rfl; rfl; exact fd_56_1; exact qZ); all_goals (apply ol_eff; apply s_store1; rfl; rfl; exact sz_31; rfl; exact qN; exact qT); all_goals (apply ol_nil))
    | (refine cw_region_id 8 ?_; (apply ol_as; rfl; rfl); (apply ol_nil))
    | (apply cw_cond_true; rfl; exact qA)
    | (apply cw_cond_false; rfl; exact qA)
    | apply cw_skip
    | apply cw_ret
    | apply cw_block
    | apply cw_exit
  all_goals
    refine endsW [⟨some sb, [.slice (some ⟨rb, 0, none⟩) bs.length cb, .slice (bof rkA okA Aw) (ms.length + xs31.length) ckA], 56⟩, ⟨some rb, flat LS.enc (bs.set i ⟨p.ro, p.ph, p.bk, p.bn, ⟨p.tr, ta31, tb31, to31, tc31⟩, ⟨p.vo, va31, vb31, vo31, vc31⟩⟩) ++ spb, 25⟩, ⟨rkA, frA ++ (flat LM.enc ms ++ flat LM.enc xs31 ++ skA), 28⟩] [] F31 (RVal.tmp rfl RVal.nil) (by exact qK) hL31 hF31 (fun F hF _ => ⟨rfl, fun N hMN hFN => ?_⟩)
    refine ⟨rb, cb, spb, rkA, okA, Aw, ckA, frA, skA, bs.set i ⟨p.ro, p.ph, p.bk, p.bn, ⟨p.tr, ta31, tb31, to31, tc31⟩, ⟨p.vo, va31, vb31, vo31, vc31⟩⟩, ms ++ xs31, ?_, map_setV h2, mem_setV (fun s hs => (h3 s hs).mono hMN) ⟨st31.mono (hF.trans hFN), sv31.mono (hF.trans hFN), lt31, lv31⟩, by rw [List.map_append, h4, hvm31], fun m hm => (List.mem_append.1 hm).elim (fun h => (h5 m h).mono hMN) (fun h => (hlm31 m h).mono (hF.trans hFN)), ?_, ?_⟩
    · rw [List.length_set, List.length_append, flat_append]
    · rw [List.length_set]
      exact ⟨by rw [flat_length LS.enc_length, List.length_set], by have := h6.hcap; rw [flat_length LS.enc_length] at this ⊢; rw [List.length_set]; exact this, h6.hle, h6.hnone⟩
    · rw [List.length_append, flat_append]; exact sfA
end Go.Proofs.Ytagmoecojmlogaa
namespace Go.Proofs.Ytagmoecojmlogaa
set_option maxRecDepth 20000
set_option linter.unusedSimpArgs false
set_option linter.unusedVariables false
open Go Go.Fw
structure AgSt where
  i : Nat
  c : Nat
  a : Nat
end Go.Proofs.Ytagmoecojmlogaa
namespace Go.Proofs.Ytagmoecojmlogaa
set_option maxRecDepth 20000
set_option linter.unusedSimpArgs false
set_option linter.unusedVariables false
open Go Go.Fw
attribute [local irreducible] CW OL OD FX Stp FnC FnV FnA FnM Ret svB noneV hz bodyP strOf mvB coordP partP recvP beginP tickP newP mnP dcP
set_option maxHeartbeats 1600000
theorem agree_spec {M : View} {w : World} (hM : View.le M (View.of w)) {sb : Nat} {bs bs0 : List LS} {a a0 : Option Addr} {b o cb b0 o0 c0 n : Nat} (hsb : GetN (M.cell sb) 0 1 [.slice a n cb]) (hn : bs.length = n) (s : SlA M LS.enc 6 a bs b o) (s0 : SlA M LS.enc 6 a0 bs0 b0 o0)
    (hl : bs0.length = n) (h1 : ∀ x ∈ bs, LsV M x) (h2 : ∀ x ∈ bs0, LsV M x) (h8 : n ≤ 8) {perm : Bool} (hK : ∀ i (hi : i < bs.length) (hi0 : i < bs0.length), (dcP bs0[i].val).1 = true → dcP bs[i].val = dcP bs0[i].val)
    (hC : ∀ i (hi : i < bs.length), dcP bs[i].val = (true, true) → perm = true ∧ ∀ j (hj : j < bs.length), dcP bs[j].val ≠ (true, false)) :
    FnC Try.prog 57 [.pointer (some ⟨sb, 0, none⟩), .slice a0 n c0, .bool perm] w (fun v _ => v = .bool true) := by
  subst hn
  refine enterF (M := M) Try.func57 rfl rfl rfl rfl hM ?_
  repeat' first
    | apply cw_seq
    | (refine cw_region_id 0 ?_; (apply ol_as; rfl; rfl); (apply ol_nil))
    | (refine cw_region_id 1 ?_; (apply ol_as; rfl; rfl); (apply ol_as; rfl; rfl); (apply ol_nil))
    | (refine cw_region_id 2 ?_; (apply ol_mv; rfl; rfl); (apply ol_val; rfl; apply stp_pur; apply s_nilCheck; rfl); (apply ol_fa; rfl; rfl; exact fd_56_0; exact qZ); (apply ol_ld; rfl; rfl; rfl; (first | exact qP | (apply RdN.view; exact hsb))); (apply ol_val; rfl; apply stp_pur; apply s_len; rfl; exact el_54); (apply ol_mv; rfl; rfl); (apply ol_nil))
    | (apply cw_cond_true; rfl; exact qA)
    | (apply cw_cond_false; rfl; exact qA)
    | apply cw_skip
    | apply cw_ret
    | apply cw_block
    | apply cw_exit
  refine cw_loopK (σ := AgSt) [1, 2, 18, 19] (by (repeat (first | exact Keep.nil | (apply Keep.cons; rfl)))) (fun s => [(7, .int .i64 s.c), (8, .int .i64 s.a), (20, .int .i64 s.i)]) (fun _ => M) (fun _ => []) (fun s => s.i ≤ bs.length ∧ s.c ≤ s.i ∧ s.a ≤ s.i ∧ (0 < s.c → ∃ j, ∃ hj : j < bs.length, dcP bs[j].val = (true, true)) ∧ (0 < s.a → ∃ j, ∃ hj : j < bs.length, dcP bs[j].val = (true, false))) (fun s => bs.length - s.i) ⟨0, 0, 0⟩ (by (repeat (first | exact trivial | refine And.intro rfl ?_))) (View.le.refl _) (by exact qK) ⟨Nat.zero_le _, Nat.le_refl _, Nat.le_refl _, fun h => absurd h (Nat.lt_irrefl _), fun h => absurd h (Nat.lt_irrefl _)⟩ ?_
  rintro ⟨i, c, aa⟩ ⟨hi, hc, ha, hcc, haa⟩
  dsimp only at hi hc ha hcc haa ⊢
  by_cases hin : i < bs.length
  · have hg := s.cells i hin
    have hg0 := s0.cells i (by omega)
    have hk := hK i hin (by omega)
    have hcc' : dcP bs[i].val = (true, true) → ∃ j, ∃ hj : j < bs.length, dcP bs[j].val = (true, true) := fun e => ⟨i, hin, e⟩
    have haa' : dcP bs[i].val = (true, false) → ∃ j, ∃ hj : j < bs.length, dcP bs[j].val = (true, false) := fun e => ⟨i, hin, e⟩
    have k1 := fun (w' : World) (h : View.le M (View.of w')) => decided_spec h (h1 bs[i] (List.getElem_mem hin))
    have k2 := fun (w' : World) (h : View.le M (View.of w')) => decided_spec h (h2 bs0[i] (List.getElem_mem (by omega)))
    generalize (bs[i] : LS) = x at *
    generalize (bs0[i] : LS) = x0 at *
    generalize dcP x.val = d at *
    generalize dcP x0.val = d0 at *
    obtain ⟨d1, d2⟩ := d
    obtain ⟨d3, d4⟩ := d0
    have hk : d3 = true → d1 = d3 ∧ d2 = d4 := fun e => ⟨congrArg Prod.fst (hk e), congrArg Prod.snd (hk e)⟩
    dsimp only at k1 k2
    obtain ⟨ro, ph, bk, bn, ⟨tr, ta, tb, to, tc⟩, ⟨vo, va, vb, vo', vc⟩⟩ := x
    obtain ⟨ro', ph', bk', bn', ⟨tr', ta', tb', to', tc'⟩, ⟨vo2, va', vb', vo2', vc'⟩⟩ := x0
    unfold LS.enc at k1 k2 hg hg0
    dsimp only at k1 k2 hg hg0
    have hcase : (d3 = false ∧ d1 = false) ∨ (d3 = false ∧ d1 = true ∧ d2 = true) ∨ (d3 = false ∧ d1 = true ∧ d2 = false) ∨ (d3 = true ∧ d1 = true ∧ d2 = true ∧ d4 = true) ∨ (d3 = true ∧ d1 = true ∧ d2 = false ∧ d4 = false) := by
      have key : ∀ d1 d2 d3 d4 : Bool, (d3 = true → d1 = d3 ∧ d2 = d4) → (d3 = false ∧ d1 = false) ∨ (d3 = false ∧ d1 = true ∧ d2 = true) ∨ (d3 = false ∧ d1 = true ∧ d2 = false) ∨ (d3 = true ∧ d1 = true ∧ d2 = true ∧ d4 = true) ∨ (d3 = true ∧ d1 = true ∧ d2 = false ∧ d4 = false) := by decide
      exact key d1 d2 d3 d4 hk
    clear hK hC hk
    rcases hcase with ⟨rfl, rfl⟩ | ⟨rfl, rfl, rfl⟩ | ⟨rfl, rfl, rfl⟩ | ⟨rfl, rfl, rfl, rfl⟩ | ⟨rfl, rfl, rfl, rfl⟩
    all_goals
      repeat' first
        | apply cw_seq
        | (refine cw_region_id 3 ?_; (apply ol_val; rfl; apply stp_cmp; apply s_lss; rfl; rfl; all_goals (intro hc21; try (exfalso; (first | exact hc21 rfl | omega)))); all_goals (apply ol_nil))
        | (refine cw_region_id 4 ?_; (apply ol_mv; rfl; rfl); (apply ol_val; rfl; apply stp_pur; first | (apply s_indexK; rfl; rfl; exact el_54; exact sz_25; (first | rfl | exact s.at_ (by omega) | exact s0.at_ (by omega)); omega) | (apply s_indexO; rfl; rfl; exact el_54; exact sz_25; (first | rfl | exact s.at_ (by omega) | exact s0.at_ (by omega)); omega)); (apply ol_ldN; rfl; rfl; rfl; exact sz_25; (first | exact qQ | (apply RdN.view; exact hg) | (apply RdN.view; exact hg0))); (apply ol_val; rfl; apply s_alloc; exact zb_25; exact qN; intro bk10); (apply ol_as; rfl; rfl); (apply ol_eff; apply s_storeN; rfl; rfl; exact sz_25; rfl; rfl; exact qN; exact qN); (apply ol_nil))
        | (refine cw_region_id 5 ?_; (apply ol_ldN; rfl; rfl; rfl; exact sz_25; (first | exact qQ | (apply RdN.view; exact hg) | (apply RdN.view; exact hg0))); (apply ol_val; rfl; apply s_callv; rfl; exact gf_14; (intro w' hw'; first | exact k1 w' hw'.le | exact k2 w' hw'.le)); (apply ol_mv; rfl; rfl); (apply ol_ex; rfl; rfl; rfl); (apply ol_ex; rfl; rfl; rfl); (apply ol_as; rfl; rfl); (apply ol_as; rfl; rfl); (apply ol_nil))
        | (refine cw_region_id 6 ?_; (apply ol_mv; rfl; rfl); (apply ol_mv; rfl; rfl); (apply ol_val; rfl; apply stp_pur; first | (apply s_indexK; rfl; rfl; exact el_54; exact sz_25; (first | rfl | exact s.at_ (by omega) | exact s0.at_ (by omega)); omega) | (apply s_indexO; rfl; rfl; exact el_54; exact sz_25; (first | rfl | exact s.at_ (by omega) | exact s0.at_ (by omega)); omega)); (apply ol_ldN; rfl; rfl; rfl; exact sz_25; (first | exact qQ | (apply RdN.view; exact hg) | (apply RdN.view; exact hg0))); (apply ol_val; rfl; apply s_callv; rfl; exact gf_14; (intro w' hw'; first | exact k1 w' hw'.le | exact k2 w' hw'.le)); (apply ol_mv; rfl; rfl); (apply ol_ex; rfl; rfl; rfl); (apply ol_ex; rfl; rfl; rfl); (apply ol_as; rfl; rfl); (apply ol_as; rfl; rfl); (apply ol_nil))
        | (refine cw_region_id 7 ?_; (apply ol_mv; rfl; rfl); (apply ol_mv; rfl; rfl); (first | (apply ol_gskip; rfl; rfl; exact qA; rfl) | (apply ol_gval; rfl; rfl; rfl; exact qA; apply stp_pur; apply s_move; rfl)); (first | (apply ol_gskip; rfl; rfl; exact qA; rfl) | (apply ol_gval; rfl; rfl; rfl; exact qA; apply stp_pur; first | (apply s_not_t; rfl; exact qA) | (apply s_not_f; rfl; exact qA) | (apply s_not; rfl))); (first | (apply ol_gskip; rfl; rfl; exact qA; rfl) | (apply ol_gval; rfl; rfl; rfl; exact qA; apply stp_pur; apply s_move; rfl)); (first | (apply ol_gskip; rfl; rfl; exact qA; rfl) | (apply ol_gskipu; rfl; rfl; rfl) | (apply ol_gval; rfl; rfl; rfl; exact qA; apply stp_pur; apply s_move; rfl)); (first | (apply ol_gskip; rfl; rfl; exact qA; rfl) | (apply ol_gskipu; rfl; rfl; rfl) | (apply ol_gval; rfl; rfl; rfl; exact qA; apply stp_pur; apply s_move; rfl)); (first | (apply ol_gskip; rfl; rfl; exact qA; rfl) | (apply ol_gskipu; rfl; rfl; rfl) | (apply ol_gval; rfl; rfl; rfl; exact qA; apply stp_pur; apply s_neqB; rfl; rfl; exact ub_4)); (first | (apply ol_gskip; rfl; rfl; exact qA; rfl) | (apply ol_gval; rfl; rfl; rfl; exact qA; apply stp_pur; first | (apply s_pick_t; rfl; exact qA; rfl) | (apply s_pick_f; rfl; exact qA; rfl))); (apply ol_val; rfl; apply stp_pur; first | (apply s_pick_t; rfl; exact qA; rfl) | (apply s_pick_f; rfl; exact qA; rfl)); (apply ol_nil))
        | (refine cw_region_id 8 ?_; (apply ol_as; rfl; rfl); (apply ol_nil))
        | (refine cw_region_id 9 ?_; (apply ol_mv; rfl; rfl); (apply ol_mv; rfl; rfl); (first | (apply ol_gskip; rfl; rfl; exact qA; rfl) | (apply ol_gval; rfl; rfl; rfl; exact qA; apply stp_pur; apply s_move; rfl)); (apply ol_val; rfl; apply stp_pur; first | (apply s_pick_t; rfl; exact qA; rfl) | (apply s_pick_f; rfl; exact qA; rfl)); (apply ol_nil))
        | (refine cw_region_id 10 ?_; (apply ol_mv; rfl; rfl); (apply ol_val; rfl; apply stp_pur; apply s_add64; rfl; rfl; omega); (apply ol_as; rfl; rfl); (apply ol_nil))
        | (refine cw_region_id 11 ?_; (apply ol_mv; rfl; rfl); (apply ol_nil))
        | (refine cw_region_id 12 ?_; (apply ol_mv; rfl; rfl); (apply ol_val; rfl; apply stp_pur; apply s_add64; rfl; rfl; omega); (apply ol_as; rfl; rfl); (apply ol_nil))
        | (refine cw_region_id 13 ?_; (apply ol_val; rfl; apply stp_pur; apply s_add64; rfl; rfl; omega); (apply ol_mv; rfl; rfl); (apply ol_nil))
        | (refine cw_region_id 14 ?_; (apply ol_mv; rfl; rfl); (apply ol_val; rfl; apply stp_cmp; apply s_eql; rfl; rfl; all_goals (intro hc59; try (exfalso; (first | exact hc59 rfl | omega)))); all_goals (apply ol_mv; rfl; rfl); all_goals (first | (apply ol_gskip; rfl; rfl; exact qA; rfl) | (apply ol_gval; rfl; rfl; rfl; exact qA; apply stp_pur; apply s_move; rfl)); all_goals (first | (apply ol_gskip; rfl; rfl; exact qA; rfl) | (apply ol_gval; rfl; rfl; rfl; exact qA; apply stp_cmp; apply s_eql; rfl; rfl; all_goals (intro hc62; try (exfalso; (first | exact hc62 rfl | omega))))); all_goals (apply ol_val; rfl; apply stp_pur; first | (apply s_pick_t; rfl; exact qA; rfl) | (apply s_pick_f; rfl; exact qA; rfl)); all_goals (apply ol_mv; rfl; rfl); all_goals (first | (apply ol_gskip; rfl; rfl; exact qA; rfl) | (apply ol_gval; rfl; rfl; rfl; exact qA; apply stp_pur; apply s_move; rfl)); all_goals (first | (apply ol_gskip; rfl; rfl; exact qA; rfl) | (apply ol_gval; rfl; rfl; rfl; exact qA; apply stp_cmp; apply s_eql; rfl; rfl; all_goals (intro hc66; try (exfalso; (first | exact hc66 rfl | omega))))); all_goals (first | (apply ol_gskip; rfl; rfl; exact qA; rfl) | (apply ol_gval; rfl; rfl; rfl; exact qA; apply stp_pur; apply s_move; rfl)); all_goals (first | (apply ol_gskip; rfl; rfl; exact qA; rfl) | (apply ol_gskipu; rfl; rfl; rfl) | (apply ol_gval; rfl; rfl; rfl; exact qA; apply stp_pur; apply s_move; rfl)); all_goals (first | (apply ol_gskip; rfl; rfl; exact qA; rfl) | (apply ol_gval; rfl; rfl; rfl; exact qA; apply stp_pur; first | (apply s_pick_t; rfl; exact qA; rfl) | (apply s_pick_f; rfl; exact qA; rfl))); all_goals (apply ol_val; rfl; apply stp_pur; first | (apply s_pick_t; rfl; exact qA; rfl) | (apply s_pick_f; rfl; exact qA; rfl)); all_goals (apply ol_as; rfl; rfl); all_goals (apply ol_nil))
        | (apply cw_cond_true; rfl; exact qA)
        | (apply cw_cond_false; rfl; exact qA)
        | apply cw_skip
        | apply cw_ret
        | apply cw_block
        | apply cw_exit
      all_goals first
      | (refine ⟨⟨i + 1, c, aa⟩, ⟨?_, View.le.refl _, by exact qK, ⟨hin, by dsimp only; omega, by dsimp only; omega, hcc, haa⟩, by dsimp only; omega⟩⟩; ((repeat (first | exact trivial | refine And.intro rfl ?_))); done)
      | (refine ⟨⟨i + 1, c + 1, aa⟩, ⟨?_, View.le.refl _, by exact qK, ⟨hin, by dsimp only; omega, by dsimp only; omega, fun _ => hcc' rfl, haa⟩, by dsimp only; omega⟩⟩; ((repeat (first | exact trivial | refine And.intro rfl ?_))); done)
      | (refine ⟨⟨i + 1, c, aa + 1⟩, ⟨?_, View.le.refl _, by exact qK, ⟨hin, by dsimp only; omega, by dsimp only; omega, hcc, fun _ => haa' rfl⟩, by dsimp only; omega⟩⟩; ((repeat (first | exact trivial | refine And.intro rfl ?_))); done)
  · have hz : c = 0 ∨ (c ≠ 0 ∧ aa = 0 ∧ perm = true) := by
      by_cases h0 : c = 0
      · exact .inl h0
      · obtain ⟨j, hj, e⟩ := hcc (by omega)
        obtain ⟨e1, e2⟩ := hC j hj e
        refine .inr ⟨h0, ?_, e1⟩
        by_cases h1 : aa = 0
        · exact h1
        · obtain ⟨j', hj', e'⟩ := haa (by omega)
          exact absurd e' (e2 j' hj')
    clear hK hC hcc haa
    rcases hz with rfl | ⟨h0, rfl, rfl⟩
    ·
      repeat' first
        | apply cw_seq
        | (refine cw_region_id 3 ?_; (apply ol_val; rfl; apply stp_cmp; apply s_lss; rfl; rfl; all_goals (intro hc21; try (exfalso; (first | exact hc21 rfl | omega)))); all_goals (apply ol_nil))
        | (refine cw_region_id 14 ?_; (apply ol_mv; rfl; rfl); (apply ol_val; rfl; apply stp_cmp; apply s_eql; rfl; rfl; all_goals (intro hc59; try (exfalso; (first | exact hc59 rfl | omega)))); all_goals (apply ol_mv; rfl; rfl); all_goals (first | (apply ol_gskip; rfl; rfl; exact qA; rfl) | (apply ol_gval; rfl; rfl; rfl; exact qA; apply stp_pur; apply s_move; rfl)); all_goals (first | (apply ol_gskip; rfl; rfl; exact qA; rfl) | (apply ol_gval; rfl; rfl; rfl; exact qA; apply stp_cmp; apply s_eql; rfl; rfl; all_goals (intro hc62; try (exfalso; (first | exact hc62 rfl | omega))))); all_goals (apply ol_val; rfl; apply stp_pur; first | (apply s_pick_t; rfl; exact qA; rfl) | (apply s_pick_f; rfl; exact qA; rfl)); all_goals (apply ol_mv; rfl; rfl); all_goals (first | (apply ol_gskip; rfl; rfl; exact qA; rfl) | (apply ol_gval; rfl; rfl; rfl; exact qA; apply stp_pur; apply s_move; rfl)); all_goals (first | (apply ol_gskip; rfl; rfl; exact qA; rfl) | (apply ol_gval; rfl; rfl; rfl; exact qA; apply stp_cmp; apply s_eql; rfl; rfl; all_goals (intro hc66; try (exfalso; (first | exact hc66 rfl | omega))))); all_goals (first | (apply ol_gskip; rfl; rfl; exact qA; rfl) | (apply ol_gval; rfl; rfl; rfl; exact qA; apply stp_pur; apply s_move; rfl)); all_goals (first | (apply ol_gskip; rfl; rfl; exact qA; rfl) | (apply ol_gskipu; rfl; rfl; rfl) | (apply ol_gval; rfl; rfl; rfl; exact qA; apply stp_pur; apply s_move; rfl)); all_goals (first | (apply ol_gskip; rfl; rfl; exact qA; rfl) | (apply ol_gval; rfl; rfl; rfl; exact qA; apply stp_pur; first | (apply s_pick_t; rfl; exact qA; rfl) | (apply s_pick_f; rfl; exact qA; rfl))); all_goals (apply ol_val; rfl; apply stp_pur; first | (apply s_pick_t; rfl; exact qA; rfl) | (apply s_pick_f; rfl; exact qA; rfl)); all_goals (apply ol_as; rfl; rfl); all_goals (apply ol_nil))
        | (apply cw_cond_true; rfl; exact qA)
        | (apply cw_cond_false; rfl; exact qA)
        | apply cw_skip
        | apply cw_ret
        | apply cw_block
        | apply cw_exit
      all_goals (refine ends [] (RVal.tmp rfl RVal.nil) Pick.nil ?_; rfl)
    ·
      repeat' first
        | apply cw_seq
        | (refine cw_region_id 3 ?_; (apply ol_val; rfl; apply stp_cmp; apply s_lss; rfl; rfl; all_goals (intro hc21; try (exfalso; (first | exact hc21 rfl | omega)))); all_goals (apply ol_nil))
        | (refine cw_region_id 14 ?_; (apply ol_mv; rfl; rfl); (apply ol_val; rfl; apply stp_cmp; apply s_eql; rfl; rfl; all_goals (intro hc59; try (exfalso; (first | exact hc59 rfl | omega)))); all_goals (apply ol_mv; rfl; rfl); all_goals (first | (apply ol_gskip; rfl; rfl; exact qA; rfl) | (apply ol_gval; rfl; rfl; rfl; exact qA; apply stp_pur; apply s_move; rfl)); all_goals (first | (apply ol_gskip; rfl; rfl; exact qA; rfl) | (apply ol_gval; rfl; rfl; rfl; exact qA; apply stp_cmp; apply s_eql; rfl; rfl; all_goals (intro hc62; try (exfalso; (first | exact hc62 rfl | omega))))); all_goals (apply ol_val; rfl; apply stp_pur; first | (apply s_pick_t; rfl; exact qA; rfl) | (apply s_pick_f; rfl; exact qA; rfl)); all_goals (apply ol_mv; rfl; rfl); all_goals (first | (apply ol_gskip; rfl; rfl; exact qA; rfl) | (apply ol_gval; rfl; rfl; rfl; exact qA; apply stp_pur; apply s_move; rfl)); all_goals (first | (apply ol_gskip; rfl; rfl; exact qA; rfl) | (apply ol_gval; rfl; rfl; rfl; exact qA; apply stp_cmp; apply s_eql; rfl; rfl; all_goals (intro hc66; try (exfalso; (first | exact hc66 rfl | omega))))); all_goals (first | (apply ol_gskip; rfl; rfl; exact qA; rfl) | (apply ol_gval; rfl; rfl; rfl; exact qA; apply stp_pur; apply s_move; rfl)); all_goals (first | (apply ol_gskip; rfl; rfl; exact qA; rfl) | (apply ol_gskipu; rfl; rfl; rfl) | (apply ol_gval; rfl; rfl; rfl; exact qA; apply stp_pur; apply s_move; rfl)); all_goals (first | (apply ol_gskip; rfl; rfl; exact qA; rfl) | (apply ol_gval; rfl; rfl; rfl; exact qA; apply stp_pur; first | (apply s_pick_t; rfl; exact qA; rfl) | (apply s_pick_f; rfl; exact qA; rfl))); all_goals (apply ol_val; rfl; apply stp_pur; first | (apply s_pick_t; rfl; exact qA; rfl) | (apply s_pick_f; rfl; exact qA; rfl)); all_goals (apply ol_as; rfl; rfl); all_goals (apply ol_nil))
        | (apply cw_cond_true; rfl; exact qA)
        | (apply cw_cond_false; rfl; exact qA)
        | apply cw_skip
        | apply cw_ret
        | apply cw_block
        | apply cw_exit
      all_goals (refine ends [] (RVal.tmp rfl RVal.nil) Pick.nil ?_; rfl)
end Go.Proofs.Ytagmoecojmlogaa
