/-
  The walk of the reference's reading.
-/
import Derived.Test.YtelidojkpbaofaaDoorJ7
namespace Go.Proofs.YtelidojkpbaofaaDoor
set_option maxRecDepth 20000
set_option linter.unusedSimpArgs false
set_option linter.unusedVariables false
open Go Go.Fw
attribute [local irreducible] CW OL OD FX Stp FnC FnV Ret sha strOf be8 be4 frB num4
set_option maxHeartbeats 1600000
theorem rread_spec {M : View} {w : World} (hM : View.le M (View.of w)) (hL : Laid M) {j : JV} {n c : Nat} {a : Option Addr} {bj oj : Nat} (hn : j.by_.length = n) (hnc : n ≤ c) (hb : isB j.by_) (s : SlA M (eK .u8) 1 a j.by_ bj oj) :
    FnV Tryd.prog 21 [.agg [.slice a n c, .int .i64 j.du, .int .i64 j.af].toArray] w (RowsR (readJ j)) := by
  obtain ⟨p, du, af⟩ := j
  dsimp only at hn s hb
  refine enterV (M := M) Tryd.func21 rfl rfl rfl rfl hM ?_
  have kv := fun (w' : World) => rvalid_spec w' (n := n) (c := c) (a := a) du af
  unfold readJ validJ
  dsimp only
  rw [hn]
  refine cw_none 22 ?_
  by_cases hv : validN n du af
  · rw [if_pos hv]
    rw [decide_eq_true hv] at kv
    unfold validN at hv
    generalize hL0 : readL p = L0 at *
    repeat' first
      | apply cw_seq
      | (refine cw_region_id 0 ?_; (apply ol_val; exact rfl; first | (apply s_boxN; exact rfl; intro bk1) | (apply s_box1; exact rfl; exact rfl; intro bk1)); (apply ol_as; exact rfl; exact rfl); (apply ol_nil))
      | (refine cw_region_id 1 ?_; (apply ol_as; exact rfl; exact rfl); (apply ol_nil))
      | (refine cw_region_id 2 ?_; (apply ol_ldN; exact rfl; exact rfl; exact rfl; exact sz_24; (apply RdN.own; (focus ((repeat constructor); done)); (focus ((repeat (first | exact rfl | constructor)); done)))); (apply ol_val; exact rfl; apply s_callv; exact rfl; exact gf_15; (intro w' hw'; exact kv w')); (apply ol_val; exact rfl; apply stp_pur; first | (apply s_not_t; exact rfl; (first | exact rfl | assumption)) | (apply s_not_f; exact rfl; (first | exact rfl | assumption)) | (apply s_not; exact rfl)); (apply ol_nil))
      | (refine cw_region_id 3 ?_; (apply ol_mv; exact rfl; exact rfl); (apply ol_as; exact rfl; exact rfl); (apply ol_nil))
      | (refine cw_region_id 4 ?_; (apply ol_fa; exact rfl; exact rfl; exact fd_24_0; (first | exact Nat.zero_add _ | exact Nat.add_zero _ | exact rfl)); (apply ol_ld; exact rfl; exact rfl; exact rfl; (apply RdN.own; (focus ((repeat constructor); done)); exact GetN.cons rfl GetN.nil)); (apply ol_as; exact rfl; exact rfl); (apply ol_nil))
      | (apply cw_cond_true; exact rfl; (first | exact rfl | assumption))
      | (apply cw_cond_false; exact rfl; (first | exact rfl | assumption))
      | apply cw_skip
      | apply cw_ret
      | apply cw_block
      | apply cw_exit
    refine cw_loopK (σ := RdSt) [] (by (repeat (first | exact Keep.nil | (apply Keep.cons; exact rfl)))) (fun s => [(3, .slice (base s.r none) s.rows.length s.cp), (4, .slice s.Aq (n - s.d) s.cq)]) (fun s => s.V) (fun s => [⟨s.r, flat Sl.enc s.rows ++ s.sp, 22⟩]) (RdInv M w p n bj oj L0) (fun s => n - s.d) ⟨0, a, c, [], none, 0, [], M, View.nil⟩ (by (repeat (first | exact trivial | refine And.intro rfl ?_))) (View.le.refl _) (by (repeat (first | exact Pick.nil | (apply Pick.cons; (focus ((repeat (first | exact Spl.here | apply Spl.there)); done))) | exact Pick.refl))) ⟨Nat.zero_le _, by simpa using s, hnc, by simpa using hL0, Nat.le_refl _, SO.nil 1, View.le.refl _, View.nil_le _, View.fresh_nil _, fun x hx => by cases hx⟩ ?_
    clear s hL0 hnc
    rintro ⟨d, Aq, cq, rows, r, cp, sp, V, F⟩ ⟨id, iq, ic, ir, ill, iso, imv, ifv, iff, isl⟩
    dsimp only at id iq ic ir ill iso imv ifv iff isl
    dsimp only
    have hbq : isB (p.drop d) := .of fun x hx => hb.mem x (List.mem_of_mem_drop hx)
    have hql : (p.drop d).length = n - d := by rw [List.length_drop, hn]
    have hdd : ∀ e, p.drop (d + e) = (p.drop d).drop e := fun e => by rw [List.drop_drop]
    generalize hqe : p.drop d = q at *
    by_cases h36 : 36 ≤ n - d
    · have hA := iq.at_ (by omega)
      subst hA
      have iqV := iq.mono imv
      have b0 := hbq 0
      have b1 := hbq 1
      have b2 := hbq 2
      have b3 := hbq 3
      have hor := or4_i64 b0 b1 b2 b3
      have hg : ∀ i, i < 4 → ∀ {off : Nat}, off = oj + d + i → GetN (V.cell bj) off 1 [.int .u8 (q.getD i 0)] := fun i hi off e => by
        have := iqV.cells i (by omega)
        rw [e, show oj + d + i = oj + d + i * 1 by omega, show q.getD i 0 = q[i]'(by omega) by simp [List.getD, List.getElem?_eq_getElem (show i < q.length by omega)]]
        exact this
      have g0 := fun {off : Nat} (e : off = oj + d + 0) => hg 0 (by decide) e
      have g1 := fun {off : Nat} (e : off = oj + d + 1) => hg 1 (by decide) e
      have g2 := fun {off : Nat} (e : off = oj + d + 2) => hg 2 (by decide) e
      have g3 := fun {off : Nat} (e : off = oj + d + 3) => hg 3 (by decide) e
      clear hg
      have hnum : q.getD 0 0 * 16777216 + q.getD 1 0 * 65536 + q.getD 2 0 * 256 + q.getD 3 0 = num4 q := by unfold num4; rfl
      rw [hnum] at hor
      have hn0 : 0 ≤ num4 q := by rw [← hnum]; omega
      clear hnum
      generalize q.getD 0 0 = z0 at *
      generalize q.getD 1 0 = z1 at *
      generalize q.getD 2 0 = z2 at *
      generalize q.getD 3 0 = z3 at *
      have hs0 : -9223372036854775808 ≤ z0 * 2 ^ Int.toNat 24 ∧ z0 * 2 ^ Int.toNat 24 ≤ 9223372036854775807 := by rw [show (2 : Int) ^ Int.toNat 24 = 16777216 by decide]; omega
      have hs1 : -9223372036854775808 ≤ z1 * 2 ^ Int.toNat 16 ∧ z1 * 2 ^ Int.toNat 16 ≤ 9223372036854775807 := by rw [show (2 : Int) ^ Int.toNat 16 = 65536 by decide]; omega
      have hs2 : -9223372036854775808 ≤ z2 * 2 ^ Int.toNat 8 ∧ z2 * 2 ^ Int.toNat 8 ≤ 9223372036854775807 := by rw [show (2 : Int) ^ Int.toNat 8 = 256 by decide]; omega
      repeat' first
        | apply cw_seq
        | (refine cw_region_id 5 ?_; (apply ol_mv; exact rfl; exact rfl); (apply ol_val; exact rfl; apply stp_pur; apply s_len; exact rfl; exact el_22); (apply ol_val; exact rfl; apply stp_cmp; apply s_geq; exact rfl; exact rfl; all_goals (intro hc17; try (exfalso; (first | exact hc17 rfl | omega)))); all_goals (apply ol_nil))
        | (refine cw_draw (id := 6) 23 (.mv 0 (.mv 1 (.mv 2 (.mv 3 (.mv 4 (.mv 5 (.mv 6 (.mv 7 (.mv 8 (.mv 9 (.mv 10 (.mv 11 (.mv 12 (.mv 13 (.mv 14 (.mv 15 (.mv 16 (.mv 17 (.mv 18 (.mv 19 (.mv 20 (.mv 21 (.mv 22 (PT.nil)))))))))))))))))))))))) mixed (by kernel_rfl) ?_; (apply od_mv; exact rfl; exact rfl; apply s_move; exact rfl); (apply od_mv; exact rfl; exact rfl; first | (apply s_indexK; exact rfl; exact rfl; exact el_22; exact sz_5; (first | exact rfl); omega) | (apply s_indexO; exact rfl; exact rfl; exact el_22; exact sz_5; (first | exact rfl); omega)); (apply od_mv; exact rfl; exact rfl; apply s_load1; exact rfl; exact rfl; (first | (apply RdN.own; (focus ((repeat constructor); done)); (first | exact GetN.cons rfl GetN.nil | (apply getN_ints_app; (first | omega | (simp; omega) | (simp; done))) | (apply getN_ints; (first | omega | (simp; omega) | (simp; done))))) | (apply RdN.view; exact g0 (by omega)) | (apply RdN.view; exact g1 (by omega)) | (apply RdN.view; exact g2 (by omega)) | (apply RdN.view; exact g3 (by omega)))); (apply od_mv; exact rfl; exact rfl; first | (apply s_conv; exact rfl; exact rfl; exact ti_3; (focus (apply wrap_i64; omega))) | (apply s_conv; exact rfl; exact rfl; exact ti_3; exact rfl)); (apply od_mv; exact rfl; exact rfl; first | (apply s_shl64; exact rfl; exact rfl; (first | decide | omega | (simp [IntKind.bits]; omega) | (simp [IntKind.bits]; done)); omega) | (apply s_shl64; exact rfl; exact rfl; (first | decide | omega | (simp [IntKind.bits]; omega) | (simp [IntKind.bits]; done)); (first | exact hs0 | exact hs1 | exact hs2))); (apply od_mv; exact rfl; exact rfl; apply s_move; exact rfl); (apply od_mv; exact rfl; exact rfl; first | (apply s_indexK; exact rfl; exact rfl; exact el_22; exact sz_5; (first | exact rfl); omega) | (apply s_indexO; exact rfl; exact rfl; exact el_22; exact sz_5; (first | exact rfl); omega)); (apply od_mv; exact rfl; exact rfl; apply s_load1; exact rfl; exact rfl; (first | (apply RdN.own; (focus ((repeat constructor); done)); (first | exact GetN.cons rfl GetN.nil | (apply getN_ints_app; (first | omega | (simp; omega) | (simp; done))) | (apply getN_ints; (first | omega | (simp; omega) | (simp; done))))) | (apply RdN.view; exact g0 (by omega)) | (apply RdN.view; exact g1 (by omega)) | (apply RdN.view; exact g2 (by omega)) | (apply RdN.view; exact g3 (by omega)))); (apply od_mv; exact rfl; exact rfl; first | (apply s_conv; exact rfl; exact rfl; exact ti_3; (focus (apply wrap_i64; omega))) | (apply s_conv; exact rfl; exact rfl; exact ti_3; exact rfl)); (apply od_mv; exact rfl; exact rfl; first | (apply s_shl64; exact rfl; exact rfl; (first | decide | omega | (simp [IntKind.bits]; omega) | (simp [IntKind.bits]; done)); omega) | (apply s_shl64; exact rfl; exact rfl; (first | decide | omega | (simp [IntKind.bits]; omega) | (simp [IntKind.bits]; done)); (first | exact hs0 | exact hs1 | exact hs2))); (apply od_mv; exact rfl; exact rfl; apply s_or; exact rfl; exact rfl); (apply od_mv; exact rfl; exact rfl; apply s_move; exact rfl); (apply od_mv; exact rfl; exact rfl; first | (apply s_indexK; exact rfl; exact rfl; exact el_22; exact sz_5; (first | exact rfl); omega) | (apply s_indexO; exact rfl; exact rfl; exact el_22; exact sz_5; (first | exact rfl); omega)); (apply od_mv; exact rfl; exact rfl; apply s_load1; exact rfl; exact rfl; (first | (apply RdN.own; (focus ((repeat constructor); done)); (first | exact GetN.cons rfl GetN.nil | (apply getN_ints_app; (first | omega | (simp; omega) | (simp; done))) | (apply getN_ints; (first | omega | (simp; omega) | (simp; done))))) | (apply RdN.view; exact g0 (by omega)) | (apply RdN.view; exact g1 (by omega)) | (apply RdN.view; exact g2 (by omega)) | (apply RdN.view; exact g3 (by omega)))); (apply od_mv; exact rfl; exact rfl; first | (apply s_conv; exact rfl; exact rfl; exact ti_3; (focus (apply wrap_i64; omega))) | (apply s_conv; exact rfl; exact rfl; exact ti_3; exact rfl)); (apply od_mv; exact rfl; exact rfl; first | (apply s_shl64; exact rfl; exact rfl; (first | decide | omega | (simp [IntKind.bits]; omega) | (simp [IntKind.bits]; done)); omega) | (apply s_shl64; exact rfl; exact rfl; (first | decide | omega | (simp [IntKind.bits]; omega) | (simp [IntKind.bits]; done)); (first | exact hs0 | exact hs1 | exact hs2))); (apply od_mv; exact rfl; exact rfl; apply s_or; exact rfl; exact rfl); (apply od_mv; exact rfl; exact rfl; apply s_move; exact rfl); (apply od_mv; exact rfl; exact rfl; first | (apply s_indexK; exact rfl; exact rfl; exact el_22; exact sz_5; (first | exact rfl); omega) | (apply s_indexO; exact rfl; exact rfl; exact el_22; exact sz_5; (first | exact rfl); omega)); (apply od_mv; exact rfl; exact rfl; apply s_load1; exact rfl; exact rfl; (first | (apply RdN.own; (focus ((repeat constructor); done)); (first | exact GetN.cons rfl GetN.nil | (apply getN_ints_app; (first | omega | (simp; omega) | (simp; done))) | (apply getN_ints; (first | omega | (simp; omega) | (simp; done))))) | (apply RdN.view; exact g0 (by omega)) | (apply RdN.view; exact g1 (by omega)) | (apply RdN.view; exact g2 (by omega)) | (apply RdN.view; exact g3 (by omega)))); (apply od_mv; exact rfl; exact rfl; first | (apply s_conv; exact rfl; exact rfl; exact ti_3; (focus (apply wrap_i64; omega))) | (apply s_conv; exact rfl; exact rfl; exact ti_3; exact rfl)); (apply od_mv; exact rfl; exact rfl; apply s_or; exact rfl; exact rfl); (apply od_mv; exact rfl; exact rfl; apply s_assign; exact rfl); (apply od_nil; (first | exact Wk.refl _ _ | (focus (apply Wk.mk; (first | exact View.le.refl _ | assumption | exact View.le.trans (by assumption) (by assumption)); (repeat constructor); done)))); (apply ol_nil))
        | (apply cw_cond_true; exact rfl; (first | exact rfl | assumption))
        | (apply cw_cond_false; exact rfl; (first | exact rfl | assumption))
        | apply cw_skip
        | apply cw_ret
        | apply cw_block
        | apply cw_exit
      rw [hor]
      obtain ⟨k, hk⟩ := Int.eq_ofNat_of_zero_le hn0
      rw [hk]
      by_cases hok : k ≤ 16384 ∧ 36 + k ≤ n - d
      · have hrl : ((q.drop 36).take k).length = k := by rw [List.length_take, List.length_drop]; omega
        have s1 := SlA.sub iqV (l := 36) (h := q.length) (m := cq) (by omega) (Nat.le_refl _) (by omega)
        rw [List.take_length] at s1
        have hbr : isB ((q.drop 36).take k) := hbq.part 36 k
        have k1 := fun (w' : World) (hw' : View.le V (View.of w')) => first_spec (m := k) hw' (c := cq - 36) (n := n - d - 36) (by rw [List.length_drop]; omega) (by omega) (by omega) s1
        unfold RowRes at k1
        have k2 : ∀ (w' : World) {rr : Option Nat} {AA : Option Addr} {cc : Nat} {ss : List Value}, OB.ok ⟨rr, flat (eK .u8) ((q.drop 36).take k) ++ ss, 5⟩ w' → (rr = none → (q.drop 36).take k = []) → FnC Tryd.prog 40 [.slice (base rr AA) k cc] w' (fun v _ => v = .agg (flat (eK .u8) (sha ((q.drop 36).take k))).toArray) := fun w' rr AA cc ss h1 h2 => rsum_spec (View.le.refl (View.of w')) hrl (by omega) hbr (SlA.ownK (A := AA) h1 h2)
        have hstep := readL_step (p := q) (by omega) (by rw [hk]; omega) hn0
        rw [hk, show ((k : Int)).toNat = k by omega] at hstep
        have hstop := readL_stop (p := q)
        rw [hk, show ((k : Int)).toNat = k by omega] at hstop
        have hsl := sha_length ((q.drop 36).take k)
        have s3 := SlA.sub iq (l := 36 + k) (h := q.length) (m := cq) (by omega) (Nat.le_refl _) (by omega)
        rw [List.take_length, ← hdd] at s3
        have hgq : ∀ i, i < 32 → ∀ {off : Nat}, off = oj + d + (4 + i) * 1 → GetN (V.cell bj) off 1 [.int .u8 (((q.drop 4).take 32).getD i 0)] := fun i hi off e => by
          have := iqV.cells (4 + i) (by omega)
          rw [e, show ((q.drop 4).take 32).getD i 0 = q[4 + i]'(by omega) by simp [List.getD, List.getElem?_take, hi, List.getElem?_drop, List.getElem?_eq_getElem (show 4 + i < q.length by omega)]]
          exact this
        have hTl : ((q.drop 4).take 32).length = 32 := by rw [List.length_take, List.length_drop]; omega
        generalize hRe : (q.drop 36).take k = R at *
        generalize hTe : (q.drop 4).take 32 = T at *
        rw [hrl] at k1
        generalize hSe : sha R = S at *
        repeat' first
          | apply cw_seq
          | (refine cw_region_id 7 ?_; (apply ol_mv; exact rfl; exact rfl); (apply ol_val; exact rfl; apply stp_cmp; apply s_gtr; exact rfl; exact rfl; all_goals (intro hc41; try (exfalso; (first | exact hc41 rfl | omega)))); all_goals (apply ol_mv; exact rfl; exact rfl); all_goals (first | (apply ol_gskip; exact rfl; exact rfl; (first | exact rfl | assumption); exact rfl) | (apply ol_gval; exact rfl; exact rfl; exact rfl; (first | exact rfl | assumption); apply stp_pur; apply s_move; exact rfl)); all_goals (first | (apply ol_gskip; exact rfl; exact rfl; (first | exact rfl | assumption); exact rfl) | (apply ol_gval; exact rfl; exact rfl; exact rfl; (first | exact rfl | assumption); apply stp_pur; apply s_len; exact rfl; exact el_22)); all_goals (first | (apply ol_gskip; exact rfl; exact rfl; (first | exact rfl | assumption); exact rfl) | (apply ol_gval; exact rfl; exact rfl; exact rfl; (first | exact rfl | assumption); apply stp_pur; apply s_move; exact rfl)); all_goals (first | (apply ol_gskip; exact rfl; exact rfl; (first | exact rfl | assumption); exact rfl) | (apply ol_gval; exact rfl; exact rfl; exact rfl; (first | exact rfl | assumption); apply stp_pur; apply s_add64; exact rfl; exact rfl; omega)); all_goals (first | (apply ol_gskip; exact rfl; exact rfl; (first | exact rfl | assumption); exact rfl) | (apply ol_gval; exact rfl; exact rfl; exact rfl; (first | exact rfl | assumption); apply stp_cmp; apply s_lss; exact rfl; exact rfl; all_goals (intro hc47; try (exfalso; (first | exact hc47 rfl | omega))))); all_goals (apply ol_val; exact rfl; apply stp_pur; first | (apply s_pick_t; exact rfl; (first | exact rfl | assumption); exact rfl) | (apply s_pick_f; exact rfl; (first | exact rfl | assumption); exact rfl)); all_goals (apply ol_nil))
          | (refine cw_region_id 9 ?_; (apply ol_mv; exact rfl; exact rfl); (apply ol_val; exact rfl; apply stp_pur; apply s_slice; exact rfl; exact el_22; exact sz_5; (first | exact (show bnd _ _ _ 36 from Exists.intro _ rfl) | exact ⟨.i64, congrArg (fun z => some (Value.int .i64 z)) (show (36 : Int) + (k : Int) = ((36 + k : Nat) : Int) by omega)⟩); exact rfl; exact rfl; (intro h; first | exact rfl | cases h); (first | omega | (simp; omega) | (simp; done)); (first | omega | (simp; omega) | (simp; done)); (first | omega | (simp; omega) | (simp; done))); (apply ol_mv; exact rfl; exact rfl); (apply ol_val; exact rfl; apply s_call; exact rfl; exact gf_36; (intro w' hw'; exact k1 w' hw'.le); ((intro v new h; obtain ⟨r53, A53, c53, s53, rfl, rfl, so53⟩ := h))); (apply ol_as; exact rfl; exact rfl); (apply ol_nil))
          | (refine cw_region_id 10 ?_; (apply ol_mv; exact rfl; exact rfl); (apply ol_val; exact rfl; apply s_callv; exact rfl; exact gf_40; (intro w' hw'; exact k2 w' (hw'.ok_ (by (repeat (first | exact Has.here | apply Has.there)))) (fun h => List.length_eq_zero_iff.mp (by rw [hrl]; exact so53.empty h)))); (apply ol_val; exact rfl; apply s_allocK; exact zk_67; intro bk7); (apply ol_eff; apply s_storeK; exact rfl; exact rfl; exact sz_67; (focus ((repeat constructor); done)); (first | assumption | (rw [List.length_replicate]) | exact hsl); (first | assumption | (rw [List.length_replicate]) | exact hsl)); (apply ol_nil))
          | (refine cw_region_id 11 ?_; (apply ol_as; exact rfl; exact rfl); (apply ol_nil))
          | (apply cw_cond_true; exact rfl; (first | exact rfl | assumption))
          | (apply cw_cond_false; exact rfl; (first | exact rfl | assumption))
          | apply cw_skip
          | apply cw_ret
          | apply cw_block
          | apply cw_exit
        refine cw_loopK (σ := Nat) [3, 4, 5, 6, 7] (by (repeat (first | exact Keep.nil | (apply Keep.cons; exact rfl)))) (fun i => [(8, .int .i64 i)]) (fun _ => V) (fun _ => [⟨some bk7, flat (eK .u8) S, 67⟩, ⟨r53, flat (eK .u8) R ++ s53, 5⟩, ⟨r, flat Sl.enc rows ++ sp, 22⟩]) (fun i => i ≤ 32 ∧ ∀ e, e < i → T.getD e 0 = S.getD e 0) (fun i => 32 - i) 0 (by (repeat (first | exact trivial | refine And.intro rfl ?_))) (View.le.refl _) (by (repeat (first | exact Pick.nil | (apply Pick.cons; (focus ((repeat (first | exact Spl.here | apply Spl.there)); done))) | exact Pick.refl))) ⟨by decide, fun e he => by omega⟩ ?_
        rintro i ⟨hi, hall⟩
        try dsimp only
        by_cases hi32 : i < 32
        · have gT := fun {off : Nat} (e : off = oj + d + (4 + i) * 1) => hgq i hi32 e
          have gS := fun {off : Nat} (e : off = i) => getNKat (k := .u8) (xs := S) (i := i) (off := off) e (by omega)
          by_cases heq : T.getD i 0 = S.getD i 0
          · rw [heq] at gT
            have hall2 : ∀ e, e < i + 1 → T.getD e 0 = S.getD e 0 := fun e he => by
              by_cases hei : e = i
              · rw [hei]; exact heq
              · exact hall e (by omega)
            generalize S.getD i 0 = z at gT gS
            clear heq hall
            repeat' first
              | apply cw_seq
              | (refine cw_region_id 12 ?_; (apply ol_mv; exact rfl; exact rfl); (apply ol_val; exact rfl; apply stp_cmp; apply s_lss; exact rfl; exact rfl; all_goals (intro hc57; try (exfalso; (first | exact hc57 rfl | omega)))); all_goals (apply ol_nil))
              | (refine cw_draw (id := 14) 9 (.mv 0 (.mv 1 (.mv 2 (.mv 3 (.mv 4 (.mv 5 (.mv 6 (.mv 7 (.mv 8 (PT.nil)))))))))) mixed (by kernel_rfl) ?_; (apply od_mv; exact rfl; exact rfl; apply s_move; exact rfl); (apply od_mv; exact rfl; exact rfl; apply s_move; exact rfl); (apply od_mv; exact rfl; exact rfl; apply s_add64; exact rfl; exact rfl; omega); (apply od_mv; exact rfl; exact rfl; first | (apply s_indexK; exact rfl; exact rfl; exact el_22; exact sz_5; (first | exact rfl); omega) | (apply s_indexO; exact rfl; exact rfl; exact el_22; exact sz_5; (first | exact rfl); omega)); (apply od_mv; exact rfl; exact rfl; apply s_load1; exact rfl; exact rfl; (first | (apply RdN.own; (focus ((repeat constructor); done)); (first | exact GetN.cons rfl GetN.nil | (apply getN_ints_app; (first | omega | (simp; omega) | (simp; done))) | (apply getN_ints; (first | omega | (simp; omega) | (simp; done))))) | (apply RdN.view; exact gT (by omega)) | (apply RdN.own; (repeat (first | exact Has.here | apply Has.there)); exact gS (by omega)))); (apply od_mv; exact rfl; exact rfl; apply s_move; exact rfl); (apply od_mv; exact rfl; exact rfl; first | (apply s_indexAK; exact rfl; exact rfl; exact ar_67; exact sz_5; omega) | (apply s_indexAO; exact rfl; exact rfl; exact ar_67; exact sz_5; omega)); (apply od_mv; exact rfl; exact rfl; apply s_load1; exact rfl; exact rfl; (first | (apply RdN.own; (focus ((repeat constructor); done)); (first | exact GetN.cons rfl GetN.nil | (apply getN_ints_app; (first | omega | (simp; omega) | (simp; done))) | (apply getN_ints; (first | omega | (simp; omega) | (simp; done))))) | (apply RdN.view; exact gT (by omega)) | (apply RdN.own; (repeat (first | exact Has.here | apply Has.there)); exact gS (by omega)))); (apply od_cmp; exact rfl; exact rfl; apply s_neq; exact rfl; exact rfl; all_goals (intro hc68; try (exfalso; (first | exact hc68 rfl | omega)))); all_goals (apply od_nil; (first | exact Wk.refl _ _ | (focus (apply Wk.mk; (first | exact View.le.refl _ | assumption | exact View.le.trans (by assumption) (by assumption)); (repeat constructor); done)))); all_goals (apply ol_nil))
              | (refine cw_region_id 15 ?_; (apply ol_mv; exact rfl; exact rfl); (apply ol_as; exact rfl; exact rfl); (apply ol_nil))
              | (refine cw_region_id 13 ?_; (apply ol_mv; exact rfl; exact rfl); (apply ol_val; exact rfl; apply stp_pur; apply s_add64; exact rfl; exact rfl; omega); (apply ol_as; exact rfl; exact rfl); (apply ol_nil))
              | (refine cw_region_id 16 ?_; (apply ol_mv; exact rfl; exact rfl); (apply ol_mv; exact rfl; exact rfl); (apply ol_val; exact rfl; apply s_buildSl; exact rfl; exact el_36; exact sz_22; exact zb_22; (focus ((repeat constructor); done)); exact rfl; exact rfl; (exact Nat.le_of_ble_eq_true rfl); (focus ((repeat constructor); done)); (focus ((repeat (first | exact rfl | constructor)); done)); intro bk72); (apply ol_val; exact rfl; first | (apply s_append_e; exact rfl; exact rfl; (focus ((repeat constructor); done)); exact el_36; exact sz_22; exact zb_22; exact rfl; exact by_22; (first | exact (fun _ => rfl)); (first | (apply RdN.own; (focus ((repeat constructor); done)); (focus ((repeat (first | exact rfl | constructor)); done)))); (first | exact rfl); (first | omega | (simp; omega) | (simp; done)); (first | omega | (simp; omega) | (simp; done)); intro rk73 sk73 ck73 ok73) | (apply s_append_r; exact rfl; exact rfl; (focus ((repeat constructor); done)); (first | exact rfl | exact (List.append_nil _).symm); exact el_36; exact sz_22; exact zb_22; exact rfl; exact by_22; (first | exact SO.nil _ | assumption | (exact ⟨by simp, by simp, Nat.le_refl _, by simp⟩)); (first | exact (fun _ => rfl)); (first | (apply RdN.own; (focus ((repeat constructor); done)); (focus ((repeat (first | exact rfl | constructor)); done)))); (first | exact rfl); (first | omega | (simp; omega) | (simp; done)); (first | omega | (simp; omega) | (simp; done)); intro rk73 sk73 ck73 ok73) | (apply s_append_b; exact rfl; exact rfl; (focus ((repeat constructor); done)); (first | exact rfl | exact (List.append_nil _).symm); exact el_36; exact sz_22; exact zb_22; exact rfl; exact by_22; (first | exact SO.nil _ | assumption | (exact ⟨by simp, by simp, Nat.le_refl _, by simp⟩)); (first | exact (fun _ => rfl)); (first | (apply RdN.own; (focus ((repeat constructor); done)); (focus ((repeat (first | exact rfl | constructor)); done)))); (first | exact rfl); (first | omega | (simp; omega) | (simp; done)); (first | omega | (simp; omega) | (simp; done)); intro rk73 sk73 ck73 ok73) | (apply s_append_n; exact rfl; exact rfl; (focus ((repeat constructor); done)); exact el_36; exact sz_22; exact zb_22; exact rfl; exact by_22; (first | exact (fun _ => rfl)); (first | (apply RdN.own; (focus ((repeat constructor); done)); (focus ((repeat (first | exact rfl | constructor)); done)))); (first | exact rfl); (first | omega | (simp; omega) | (simp; done)); (first | omega | (simp; omega) | (simp; done)); intro rk73 sk73 ck73 ok73)); (apply ol_as; exact rfl; exact rfl); (apply ol_nil))
              | (refine cw_region_id 17 ?_; (apply ol_mv; exact rfl; exact rfl); (apply ol_mv; exact rfl; exact rfl); (apply ol_val; exact rfl; apply stp_pur; apply s_add64; exact rfl; exact rfl; omega); (apply ol_val; exact rfl; apply stp_pur; apply s_slice; exact rfl; exact el_22; exact sz_5; exact Exists.intro _ rfl; exact rfl; exact rfl; (intro h; first | exact rfl | cases h); (first | omega | (simp; omega) | (simp; done)); (first | omega | (simp; omega) | (simp; done)); (first | omega | (simp; omega) | (simp; done))); (apply ol_as; exact rfl; exact rfl); (apply ol_nil))
              | (apply cw_cond_true; exact rfl; (first | exact rfl | assumption))
              | (apply cw_cond_false; exact rfl; (first | exact rfl | assumption))
              | apply cw_skip
              | apply cw_ret
              | apply cw_block
              | apply cw_exit
            exact ⟨i + 1, ⟨by (repeat (first | exact trivial | refine And.intro rfl ?_)), View.le.refl _, by (repeat (first | exact Pick.nil | (apply Pick.cons; (focus ((repeat (first | exact Spl.here | apply Spl.there)); done))) | exact Pick.refl)), ⟨hi32, hall2⟩, by omega⟩⟩
          · have hne : ¬ S = T := fun e => heq (by rw [e])
            have hstop := hstop (fun h => hne h.2.2.2.2)
            repeat' first
              | apply cw_seq
              | (refine cw_region_id 12 ?_; (apply ol_mv; exact rfl; exact rfl); (apply ol_val; exact rfl; apply stp_cmp; apply s_lss; exact rfl; exact rfl; all_goals (intro hc57; try (exfalso; (first | exact hc57 rfl | omega | contradiction)))); all_goals (apply ol_nil))
              | (refine cw_draw (id := 14) 9 (.mv 0 (.mv 1 (.mv 2 (.mv 3 (.mv 4 (.mv 5 (.mv 6 (.mv 7 (.mv 8 (PT.nil)))))))))) mixed (by kernel_rfl) ?_; (apply od_mv; exact rfl; exact rfl; apply s_move; exact rfl); (apply od_mv; exact rfl; exact rfl; apply s_move; exact rfl); (apply od_mv; exact rfl; exact rfl; apply s_add64; exact rfl; exact rfl; omega); (apply od_mv; exact rfl; exact rfl; first | (apply s_indexK; exact rfl; exact rfl; exact el_22; exact sz_5; (first | exact rfl); omega) | (apply s_indexO; exact rfl; exact rfl; exact el_22; exact sz_5; (first | exact rfl); omega)); (apply od_mv; exact rfl; exact rfl; apply s_load1; exact rfl; exact rfl; (first | (apply RdN.own; (focus ((repeat constructor); done)); (first | exact GetN.cons rfl GetN.nil | (apply getN_ints_app; (first | omega | (simp; omega) | (simp; done))) | (apply getN_ints; (first | omega | (simp; omega) | (simp; done))))) | (apply RdN.view; exact gT (by omega)) | (apply RdN.own; (repeat (first | exact Has.here | apply Has.there)); exact gS (by omega)))); (apply od_mv; exact rfl; exact rfl; apply s_move; exact rfl); (apply od_mv; exact rfl; exact rfl; first | (apply s_indexAK; exact rfl; exact rfl; exact ar_67; exact sz_5; omega) | (apply s_indexAO; exact rfl; exact rfl; exact ar_67; exact sz_5; omega)); (apply od_mv; exact rfl; exact rfl; apply s_load1; exact rfl; exact rfl; (first | (apply RdN.own; (focus ((repeat constructor); done)); (first | exact GetN.cons rfl GetN.nil | (apply getN_ints_app; (first | omega | (simp; omega) | (simp; done))) | (apply getN_ints; (first | omega | (simp; omega) | (simp; done))))) | (apply RdN.view; exact gT (by omega)) | (apply RdN.own; (repeat (first | exact Has.here | apply Has.there)); exact gS (by omega)))); (apply od_cmp; exact rfl; exact rfl; apply s_neq; exact rfl; exact rfl; all_goals (intro hc68; try (exfalso; (first | exact hc68 rfl | omega | contradiction)))); all_goals (apply od_nil; (first | exact Wk.refl _ _ | (focus (apply Wk.mk; (first | exact View.le.refl _ | assumption | exact View.le.trans (by assumption) (by assumption)); (repeat constructor); done)))); all_goals (apply ol_nil))
              | (refine cw_region_id 15 ?_; (apply ol_mv; exact rfl; exact rfl); (apply ol_as; exact rfl; exact rfl); (apply ol_nil))
              | (refine cw_region_id 13 ?_; (apply ol_mv; exact rfl; exact rfl); (apply ol_val; exact rfl; apply stp_pur; apply s_add64; exact rfl; exact rfl; omega); (apply ol_as; exact rfl; exact rfl); (apply ol_nil))
              | (refine cw_region_id 16 ?_; (apply ol_mv; exact rfl; exact rfl); (apply ol_mv; exact rfl; exact rfl); (apply ol_val; exact rfl; apply s_buildSl; exact rfl; exact el_36; exact sz_22; exact zb_22; (focus ((repeat constructor); done)); exact rfl; exact rfl; (exact Nat.le_of_ble_eq_true rfl); (focus ((repeat constructor); done)); (focus ((repeat (first | exact rfl | constructor)); done)); intro bk72); (apply ol_val; exact rfl; first | (apply s_append_e; exact rfl; exact rfl; (focus ((repeat constructor); done)); exact el_36; exact sz_22; exact zb_22; exact rfl; exact by_22; (first | exact (fun _ => rfl)); (first | (apply RdN.own; (focus ((repeat constructor); done)); (focus ((repeat (first | exact rfl | constructor)); done)))); (first | exact rfl); (first | omega | (simp; omega) | (simp; done)); (first | omega | (simp; omega) | (simp; done)); intro rk73 sk73 ck73 ok73) | (apply s_append_r; exact rfl; exact rfl; (focus ((repeat constructor); done)); (first | exact rfl | exact (List.append_nil _).symm); exact el_36; exact sz_22; exact zb_22; exact rfl; exact by_22; (first | exact SO.nil _ | assumption | (exact ⟨by simp, by simp, Nat.le_refl _, by simp⟩)); (first | exact (fun _ => rfl)); (first | (apply RdN.own; (focus ((repeat constructor); done)); (focus ((repeat (first | exact rfl | constructor)); done)))); (first | exact rfl); (first | omega | (simp; omega) | (simp; done)); (first | omega | (simp; omega) | (simp; done)); intro rk73 sk73 ck73 ok73) | (apply s_append_b; exact rfl; exact rfl; (focus ((repeat constructor); done)); (first | exact rfl | exact (List.append_nil _).symm); exact el_36; exact sz_22; exact zb_22; exact rfl; exact by_22; (first | exact SO.nil _ | assumption | (exact ⟨by simp, by simp, Nat.le_refl _, by simp⟩)); (first | exact (fun _ => rfl)); (first | (apply RdN.own; (focus ((repeat constructor); done)); (focus ((repeat (first | exact rfl | constructor)); done)))); (first | exact rfl); (first | omega | (simp; omega) | (simp; done)); (first | omega | (simp; omega) | (simp; done)); intro rk73 sk73 ck73 ok73) | (apply s_append_n; exact rfl; exact rfl; (focus ((repeat constructor); done)); exact el_36; exact sz_22; exact zb_22; exact rfl; exact by_22; (first | exact (fun _ => rfl)); (first | (apply RdN.own; (focus ((repeat constructor); done)); (focus ((repeat (first | exact rfl | constructor)); done)))); (first | exact rfl); (first | omega | (simp; omega) | (simp; done)); (first | omega | (simp; omega) | (simp; done)); intro rk73 sk73 ck73 ok73)); (apply ol_as; exact rfl; exact rfl); (apply ol_nil))
              | (refine cw_region_id 17 ?_; (apply ol_mv; exact rfl; exact rfl); (apply ol_mv; exact rfl; exact rfl); (apply ol_val; exact rfl; apply stp_pur; apply s_add64; exact rfl; exact rfl; omega); (apply ol_val; exact rfl; apply stp_pur; apply s_slice; exact rfl; exact el_22; exact sz_5; exact Exists.intro _ rfl; exact rfl; exact rfl; (intro h; first | exact rfl | cases h); (first | omega | (simp; omega) | (simp; done)); (first | omega | (simp; omega) | (simp; done)); (first | omega | (simp; omega) | (simp; done))); (apply ol_as; exact rfl; exact rfl); (apply ol_nil))
              | (apply cw_cond_true; exact rfl; (first | exact rfl | assumption))
              | (apply cw_cond_false; exact rfl; (first | exact rfl | assumption))
              | apply cw_skip
              | apply cw_ret
              | apply cw_block
              | apply cw_exit
            refine endsV [⟨r, flat Sl.enc rows ++ sp, 22⟩] F (RVal.tmp rfl RVal.nil) (by (repeat (first | exact Pick.nil | (apply Pick.cons; (focus ((repeat (first | exact Spl.here | apply Spl.there)); done))) | exact Pick.refl))) ifv iff ?_
            exact ⟨rows, r, cp, sp, rfl, rfl, iso, by rw [hstop, List.append_nil] at ir; exact ir, isl⟩
        · have hST : S = T := by
            apply List.ext_getElem (by omega)
            intro e h1 h2
            have := hall e (by omega)
            simp only [List.getD, List.getElem?_eq_getElem h1, List.getElem?_eq_getElem h2, Option.getD_some] at this
            exact this.symm
          have hstep := hstep (by omega) hST
          rw [hstep] at ir
          clear hstop hstep hall hgq hST
          repeat' first
            | apply cw_seq
            | (refine cw_region_id 12 ?_; (apply ol_mv; exact rfl; exact rfl); (apply ol_val; exact rfl; apply stp_cmp; apply s_lss; exact rfl; exact rfl; all_goals (intro hc57; try (exfalso; (first | exact hc57 rfl | omega)))); all_goals (apply ol_nil))
            | (apply cw_cond_true; exact rfl; (first | exact rfl | assumption))
            | (apply cw_cond_false; exact rfl; (first | exact rfl | assumption))
            | apply cw_skip
            | apply cw_ret
            | apply cw_block
            | apply cw_exit
          rcases r53 with _ | q59
          · have hR0 : R = [] := List.length_eq_zero_iff.mp (by rw [hrl]; exact so53.empty rfl)
            repeat' first
              | apply cw_seq
              | (refine cw_region_id 16 ?_; (apply ol_mv; exact rfl; exact rfl); (apply ol_mv; exact rfl; exact rfl); (apply ol_val; exact rfl; apply s_buildSl; exact rfl; exact el_36; exact sz_22; exact zb_22; (focus ((repeat constructor); done)); exact rfl; exact rfl; (exact Nat.le_of_ble_eq_true rfl); (focus ((repeat constructor); done)); (focus ((repeat (first | exact rfl | constructor)); done)); intro bk72); (apply ol_val; exact rfl; first | (apply s_append_e; exact rfl; exact rfl; (focus ((repeat constructor); done)); exact el_36; exact sz_22; exact zb_22; exact rfl; exact by_22; (first | exact (fun _ => rfl)); (first | (apply RdN.own; (focus ((repeat constructor); done)); (focus ((repeat (first | exact rfl | constructor)); done)))); (first | exact rfl); (first | omega | (simp; omega) | (simp; done)); (first | omega | (simp; omega) | (simp; done)); intro rk73 sk73 ck73 ok73) | (apply s_append_r; exact rfl; exact rfl; (focus ((repeat constructor); done)); (first | exact rfl | exact (List.append_nil _).symm); exact el_36; exact sz_22; exact zb_22; exact rfl; exact by_22; (first | exact SO.nil _ | assumption | (exact ⟨by simp, by simp, Nat.le_refl _, by simp⟩)); (first | exact (fun _ => rfl)); (first | (apply RdN.own; (focus ((repeat constructor); done)); (focus ((repeat (first | exact rfl | constructor)); done)))); (first | exact rfl); (first | omega | (simp; omega) | (simp; done)); (first | omega | (simp; omega) | (simp; done)); intro rk73 sk73 ck73 ok73) | (apply s_append_b; exact rfl; exact rfl; (focus ((repeat constructor); done)); (first | exact rfl | exact (List.append_nil _).symm); exact el_36; exact sz_22; exact zb_22; exact rfl; exact by_22; (first | exact SO.nil _ | assumption | (exact ⟨by simp, by simp, Nat.le_refl _, by simp⟩)); (first | exact (fun _ => rfl)); (first | (apply RdN.own; (focus ((repeat constructor); done)); (focus ((repeat (first | exact rfl | constructor)); done)))); (first | exact rfl); (first | omega | (simp; omega) | (simp; done)); (first | omega | (simp; omega) | (simp; done)); intro rk73 sk73 ck73 ok73) | (apply s_append_n; exact rfl; exact rfl; (focus ((repeat constructor); done)); exact el_36; exact sz_22; exact zb_22; exact rfl; exact by_22; (first | exact (fun _ => rfl)); (first | (apply RdN.own; (focus ((repeat constructor); done)); (focus ((repeat (first | exact rfl | constructor)); done)))); (first | exact rfl); (first | omega | (simp; omega) | (simp; done)); (first | omega | (simp; omega) | (simp; done)); intro rk73 sk73 ck73 ok73)); (apply ol_as; exact rfl; exact rfl); (apply ol_nil))
              | (refine cw_region_id 17 ?_; (apply ol_mv; exact rfl; exact rfl); (apply ol_mv; exact rfl; exact rfl); (apply ol_val; exact rfl; apply stp_pur; apply s_add64; exact rfl; exact rfl; omega); (apply ol_val; exact rfl; apply stp_pur; apply s_slice; exact rfl; exact el_22; exact sz_5; (first | exact ⟨.i64, congrArg (fun z => some (Value.int .i64 z)) (show (36 : Int) + (k : Int) = ((36 + k : Nat) : Int) by omega)⟩ | exact Exists.intro _ rfl); exact rfl; exact rfl; (intro h; first | exact rfl | cases h); (first | omega | (simp; omega) | (simp; done)); (first | omega | (simp; omega) | (simp; done)); (first | omega | (simp; omega) | (simp; done))); (apply ol_as; exact rfl; exact rfl); (apply ol_nil))
              | (apply cw_cond_true; exact rfl; (first | exact rfl | assumption))
              | (apply cw_cond_false; exact rfl; (first | exact rfl | assumption))
              | apply cw_skip
              | apply cw_ret
              | apply cw_block
              | apply cw_exit
            have hE : Sl.enc (⟨R, base none A53, 0, 0, c53⟩ : Sl Int) = [.slice (base none A53) k c53] := by
              show [Value.slice (base none A53) R.length c53] = _
              rw [hrl]
            refine ⟨⟨d + (36 + k), slicedA (some ⟨bj, oj + d, none⟩) (36 + k) cq 1, cq - (36 + k), rows ++ [⟨R, base none A53, 0, 0, c53⟩], rk73, ck73, sk73, V, F⟩, ⟨?_, View.le.refl _, ?_, ⟨by dsimp only; omega, ?_, by dsimp only; omega, ?_, by dsimp only; rw [List.length_append, List.length_singleton]; omega, ?_, imv, ifv, iff, RowsR.snoc isl (View.le.refl _) ⟨by dsimp only; rw [hrl]; exact so53.hle, fun M' h => ?_⟩⟩, by dsimp only; omega⟩⟩
            · dsimp only
              rw [List.length_append, List.length_singleton, show n - (d + (36 + k)) = n - d - (36 + k) by omega]
              (repeat (first | exact trivial | refine And.intro rfl ?_))
            · dsimp only
              rw [flat_append, flat_one, hE]
              (repeat (first | exact Pick.nil | (apply Pick.cons; (focus ((repeat (first | exact Spl.here | apply Spl.there)); done))) | exact Pick.refl))
            · dsimp only
              rw [show oj + (d + (36 + k)) = oj + d + (36 + k) * 1 by omega]
              exact s3
            · dsimp only
              rw [hdd, List.map_append, List.append_assoc]
              exact ir
            · dsimp only
              rw [flat_append, flat_one, hE, List.length_append, List.length_singleton]
              exact ok73
            · dsimp only
              rw [hR0]
              exact SlA.zilch
          · refine cw_freeze (b := q59) (cs := flat (eK .u8) R ++ s53) (T := 5) (by (focus ((repeat (first | exact Spl.here | apply Spl.there)); done))) ?_
            intro ob fz hob hno hnew
            have hFo : View.le (F.add q59 ob) (V.add q59 ob) := View.add_mono ifv
            have hFF : View.le F (F.add q59 ob) := View.add_le (View.none_of ifv hno)
            repeat' first
              | apply cw_seq
              | (refine cw_region_id 16 ?_; (apply ol_mv; exact rfl; exact rfl); (apply ol_mv; exact rfl; exact rfl); (apply ol_val; exact rfl; apply s_buildSl; exact rfl; exact el_36; exact sz_22; exact zb_22; (focus ((repeat constructor); done)); exact rfl; exact rfl; (exact Nat.le_of_ble_eq_true rfl); (focus ((repeat constructor); done)); (focus ((repeat (first | exact rfl | constructor)); done)); intro bk72); (apply ol_val; exact rfl; first | (apply s_append_e; exact rfl; exact rfl; (focus ((repeat constructor); done)); exact el_36; exact sz_22; exact zb_22; exact rfl; exact by_22; (first | exact (fun _ => rfl)); (first | (apply RdN.own; (focus ((repeat constructor); done)); (focus ((repeat (first | exact rfl | constructor)); done)))); (first | exact rfl); (first | omega | (simp; omega) | (simp; done)); (first | omega | (simp; omega) | (simp; done)); intro rk73 sk73 ck73 ok73) | (apply s_append_r; exact rfl; exact rfl; (focus ((repeat constructor); done)); (first | exact rfl | exact (List.append_nil _).symm); exact el_36; exact sz_22; exact zb_22; exact rfl; exact by_22; (first | exact SO.nil _ | assumption | (exact ⟨by simp, by simp, Nat.le_refl _, by simp⟩)); (first | exact (fun _ => rfl)); (first | (apply RdN.own; (focus ((repeat constructor); done)); (focus ((repeat (first | exact rfl | constructor)); done)))); (first | exact rfl); (first | omega | (simp; omega) | (simp; done)); (first | omega | (simp; omega) | (simp; done)); intro rk73 sk73 ck73 ok73) | (apply s_append_b; exact rfl; exact rfl; (focus ((repeat constructor); done)); (first | exact rfl | exact (List.append_nil _).symm); exact el_36; exact sz_22; exact zb_22; exact rfl; exact by_22; (first | exact SO.nil _ | assumption | (exact ⟨by simp, by simp, Nat.le_refl _, by simp⟩)); (first | exact (fun _ => rfl)); (first | (apply RdN.own; (focus ((repeat constructor); done)); (focus ((repeat (first | exact rfl | constructor)); done)))); (first | exact rfl); (first | omega | (simp; omega) | (simp; done)); (first | omega | (simp; omega) | (simp; done)); intro rk73 sk73 ck73 ok73) | (apply s_append_n; exact rfl; exact rfl; (focus ((repeat constructor); done)); exact el_36; exact sz_22; exact zb_22; exact rfl; exact by_22; (first | exact (fun _ => rfl)); (first | (apply RdN.own; (focus ((repeat constructor); done)); (focus ((repeat (first | exact rfl | constructor)); done)))); (first | exact rfl); (first | omega | (simp; omega) | (simp; done)); (first | omega | (simp; omega) | (simp; done)); intro rk73 sk73 ck73 ok73)); (apply ol_as; exact rfl; exact rfl); (apply ol_nil))
              | (refine cw_region_id 17 ?_; (apply ol_mv; exact rfl; exact rfl); (apply ol_mv; exact rfl; exact rfl); (apply ol_val; exact rfl; apply stp_pur; apply s_add64; exact rfl; exact rfl; omega); (apply ol_val; exact rfl; apply stp_pur; apply s_slice; exact rfl; exact el_22; exact sz_5; (first | exact ⟨.i64, congrArg (fun z => some (Value.int .i64 z)) (show (36 : Int) + (k : Int) = ((36 + k : Nat) : Int) by omega)⟩ | exact Exists.intro _ rfl); exact rfl; exact rfl; (intro h; first | exact rfl | cases h); (first | omega | (simp; omega) | (simp; done)); (first | omega | (simp; omega) | (simp; done)); (first | omega | (simp; omega) | (simp; done))); (apply ol_as; exact rfl; exact rfl); (apply ol_nil))
              | (apply cw_cond_true; exact rfl; (first | exact rfl | assumption))
              | (apply cw_cond_false; exact rfl; (first | exact rfl | assumption))
              | apply cw_skip
              | apply cw_ret
              | apply cw_block
              | apply cw_exit
            have hE : Sl.enc (⟨R, base (some q59) A53, q59, 0, c53⟩ : Sl Int) = [.slice (base (some q59) A53) k c53] := by
              show [Value.slice (base (some q59) A53) R.length c53] = _
              rw [hrl]
            refine ⟨⟨d + (36 + k), slicedA (some ⟨bj, oj + d, none⟩) (36 + k) cq 1, cq - (36 + k), rows ++ [⟨R, base (some q59) A53, q59, 0, c53⟩], rk73, ck73, sk73, V.add q59 ob, F.add q59 ob⟩, ⟨?_, View.le.refl _, ?_, ⟨by dsimp only; omega, ?_, by dsimp only; omega, ?_, by dsimp only; rw [List.length_append, List.length_singleton]; omega, ?_, View.le.trans imv (View.add_le hno), hFo, View.fresh_add iff (by rcases hnew with h | h; exact h; cases h), RowsR.snoc isl hFF ⟨by dsimp only; rw [hrl]; exact so53.hle, fun M' h => ?_⟩⟩, by dsimp only; omega⟩⟩
            · dsimp only
              rw [List.length_append, List.length_singleton, show n - (d + (36 + k)) = n - d - (36 + k) by omega]
              (repeat (first | exact trivial | refine And.intro rfl ?_))
            · dsimp only
              rw [flat_append, flat_one, hE]
              (repeat (first | exact Pick.nil | (apply Pick.cons; (focus ((repeat (first | exact Spl.here | apply Spl.there)); done))) | exact Pick.refl))
            · dsimp only
              rw [show oj + (d + (36 + k)) = oj + d + (36 + k) * 1 by omega]
              exact s3
            · dsimp only
              rw [hdd, List.map_append, List.append_assoc]
              exact ir
            · dsimp only
              rw [flat_append, flat_one, hE, List.length_append, List.length_singleton]
              exact ok73
            · have := h q59 ob View.add_same
              subst hob
              exact SlA.ofCells (eK_length .u8) this
      · have hstop := readL_stop (p := q) (fun h => hok (by obtain ⟨_, h2, _, h4, _⟩ := h; rw [hk] at h2 h4; omega))
        repeat' first
          | apply cw_seq
          | (refine cw_region_id 7 ?_; (apply ol_mv; exact rfl; exact rfl); (apply ol_val; exact rfl; apply stp_cmp; apply s_gtr; exact rfl; exact rfl; all_goals (intro hc41; try (exfalso; (first | exact hc41 rfl | omega)))); all_goals (apply ol_mv; exact rfl; exact rfl); all_goals (first | (apply ol_gskip; exact rfl; exact rfl; (first | exact rfl | assumption); exact rfl) | (apply ol_gval; exact rfl; exact rfl; exact rfl; (first | exact rfl | assumption); apply stp_pur; apply s_move; exact rfl)); all_goals (first | (apply ol_gskip; exact rfl; exact rfl; (first | exact rfl | assumption); exact rfl) | (apply ol_gval; exact rfl; exact rfl; exact rfl; (first | exact rfl | assumption); apply stp_pur; apply s_len; exact rfl; exact el_22)); all_goals (first | (apply ol_gskip; exact rfl; exact rfl; (first | exact rfl | assumption); exact rfl) | (apply ol_gval; exact rfl; exact rfl; exact rfl; (first | exact rfl | assumption); apply stp_pur; apply s_move; exact rfl)); all_goals (first | (apply ol_gskip; exact rfl; exact rfl; (first | exact rfl | assumption); exact rfl) | (apply ol_gval; exact rfl; exact rfl; exact rfl; (first | exact rfl | assumption); apply stp_pur; apply s_add64; exact rfl; exact rfl; omega)); all_goals (first | (apply ol_gskip; exact rfl; exact rfl; (first | exact rfl | assumption); exact rfl) | (apply ol_gval; exact rfl; exact rfl; exact rfl; (first | exact rfl | assumption); apply stp_cmp; apply s_lss; exact rfl; exact rfl; all_goals (intro hc47; try (exfalso; (first | exact hc47 rfl | omega))))); all_goals (apply ol_val; exact rfl; apply stp_pur; first | (apply s_pick_t; exact rfl; (first | exact rfl | assumption); exact rfl) | (apply s_pick_f; exact rfl; (first | exact rfl | assumption); exact rfl)); all_goals (apply ol_nil))
          | (refine cw_region_id 8 ?_; (apply ol_mv; exact rfl; exact rfl); (apply ol_as; exact rfl; exact rfl); (apply ol_nil))
          | (apply cw_cond_true; exact rfl; (first | exact rfl | assumption))
          | (apply cw_cond_false; exact rfl; (first | exact rfl | assumption))
          | apply cw_skip
          | apply cw_ret
          | apply cw_block
          | apply cw_exit
        all_goals
          refine endsV [⟨r, flat Sl.enc rows ++ sp, 22⟩] F (RVal.tmp rfl RVal.nil) (by (repeat (first | exact Pick.nil | (apply Pick.cons; (focus ((repeat (first | exact Spl.here | apply Spl.there)); done))) | exact Pick.refl))) ifv iff ?_
          exact ⟨rows, r, cp, sp, rfl, rfl, iso, by rw [hstop, List.append_nil] at ir; exact ir, isl⟩
    · have hstop := readL_stop (p := q) (fun h => h36 (by obtain ⟨h1, _⟩ := h; omega))
      repeat' first
        | apply cw_seq
        | (refine cw_region_id 5 ?_; (apply ol_mv; exact rfl; exact rfl); (apply ol_val; exact rfl; apply stp_pur; apply s_len; exact rfl; exact el_22); (apply ol_val; exact rfl; apply stp_cmp; apply s_geq; exact rfl; exact rfl; all_goals (intro hc17; try (exfalso; (first | exact hc17 rfl | omega)))); all_goals (apply ol_nil))
        | (refine cw_region_id 18 ?_; (apply ol_mv; exact rfl; exact rfl); (apply ol_as; exact rfl; exact rfl); (apply ol_nil))
        | (apply cw_cond_true; exact rfl; (first | exact rfl | assumption))
        | (apply cw_cond_false; exact rfl; (first | exact rfl | assumption))
        | apply cw_skip
        | apply cw_ret
        | apply cw_block
        | apply cw_exit
      refine endsV [⟨r, flat Sl.enc rows ++ sp, 22⟩] F (RVal.tmp rfl RVal.nil) (by (repeat (first | exact Pick.nil | (apply Pick.cons; (focus ((repeat (first | exact Spl.here | apply Spl.there)); done))) | exact Pick.refl))) ifv iff ?_
      exact ⟨rows, r, cp, sp, rfl, rfl, iso, by rw [hstop, List.append_nil] at ir; exact ir, isl⟩
  · rw [if_neg hv]
    rw [decide_eq_false hv] at kv
    repeat' first
      | apply cw_seq
      | (refine cw_region_id 0 ?_; (apply ol_val; exact rfl; first | (apply s_boxN; exact rfl; intro bk1) | (apply s_box1; exact rfl; exact rfl; intro bk1)); (apply ol_as; exact rfl; exact rfl); (apply ol_nil))
      | (refine cw_region_id 1 ?_; (apply ol_as; exact rfl; exact rfl); (apply ol_nil))
      | (refine cw_region_id 2 ?_; (apply ol_ldN; exact rfl; exact rfl; exact rfl; exact sz_24; (apply RdN.own; (focus ((repeat constructor); done)); (focus ((repeat (first | exact rfl | constructor)); done)))); (apply ol_val; exact rfl; apply s_callv; exact rfl; exact gf_15; (intro w' hw'; exact kv w')); (apply ol_val; exact rfl; apply stp_pur; first | (apply s_not_t; exact rfl; (first | exact rfl | assumption)) | (apply s_not_f; exact rfl; (first | exact rfl | assumption)) | (apply s_not; exact rfl)); (apply ol_nil))
      | (refine cw_region_id 3 ?_; (apply ol_mv; exact rfl; exact rfl); (apply ol_as; exact rfl; exact rfl); (apply ol_nil))
      | (refine cw_region_id 4 ?_; (apply ol_fa; exact rfl; exact rfl; exact fd_24_0; (first | exact Nat.zero_add _ | exact Nat.add_zero _ | exact rfl)); (apply ol_ld; exact rfl; exact rfl; exact rfl; (apply RdN.own; (focus ((repeat constructor); done)); exact GetN.cons rfl GetN.nil)); (apply ol_as; exact rfl; exact rfl); (apply ol_nil))
      | (apply cw_cond_true; exact rfl; (first | exact rfl | assumption))
      | (apply cw_cond_false; exact rfl; (first | exact rfl | assumption))
      | apply cw_skip
      | apply cw_ret
      | apply cw_block
      | apply cw_exit
    refine endsV [⟨none, [], 22⟩] View.nil (RVal.tmp rfl RVal.nil) (by (repeat (first | exact Pick.nil | (apply Pick.cons; (focus ((repeat (first | exact Spl.here | apply Spl.there)); done))) | exact Pick.refl))) (View.nil_le _) (View.fresh_nil _) ?_
    exact ⟨[], none, 0, [], rfl, rfl, SO.nil 1, rfl, fun x hx => by cases hx⟩
end Go.Proofs.YtelidojkpbaofaaDoor
