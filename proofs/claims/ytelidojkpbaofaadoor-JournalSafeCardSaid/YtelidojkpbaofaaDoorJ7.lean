/-
  The walk of reading.
-/
import Derived.Test.YtelidojkpbaofaaDoorJ6
import Derived.Test.YtelidojkpbaofaaDoorFw26
namespace Go.Proofs.YtelidojkpbaofaaDoor
set_option maxRecDepth 20000
set_option linter.unusedSimpArgs false
set_option linter.unusedVariables false
open Go Go.Fw
abbrev _root_.Go.Fw.Sl.v {α : Type} (s : Sl α) : Value := .slice s.a s.xs.length s.c
/-- Rows of bytes that are handed back, for reading. -/
def RowsR (L : List (List Int)) (v : Value) (F : View) (new : List OB) : Prop :=
  ∃ (rows : List (Sl Int)) (r : Option Nat) (cap : Nat) (sp : List Value), v = .slice (base r none) rows.length cap ∧ new = [⟨r, flat Sl.enc rows ++ sp, 22⟩] ∧ SO r rows.length cap (flat Sl.enc rows) sp 1 ∧ rows.map Sl.xs = L ∧
    ∀ x ∈ rows, x.xs.length ≤ x.c ∧ ∀ M', View.le F M' → SlA M' (eK .u8) 1 x.a x.xs x.b x.o
structure RdSt where
  d : Nat
  Aq : Option Addr
  cq : Nat
  rows : List (Sl Int)
  r : Option Nat
  cp : Nat
  sp : List Value
  V : View
  F : View
structure RdInv (M : View) (w : World) (p : List Int) (n bj oj : Nat) (L0 : List (List Int)) (s : RdSt) : Prop where
  hd : s.d ≤ n
  hq : SlA M (eK .u8) 1 s.Aq (p.drop s.d) bj (oj + s.d)
  hc : n - s.d ≤ s.cq
  hr : s.rows.map Sl.xs ++ readL (p.drop s.d) = L0
  hl : s.rows.length ≤ s.d
  so : SO s.r s.rows.length s.cp (flat Sl.enc s.rows) s.sp 1
  mv : View.le M s.V
  fv : View.le s.F s.V
  ff : View.fresh s.F w
  sl : ∀ x ∈ s.rows, x.xs.length ≤ x.c ∧ ∀ M', View.le s.F M' → SlA M' (eK .u8) 1 x.a x.xs x.b x.o
theorem RowsR.snoc {F F' : View} {rows : List (Sl Int)} {x : Sl Int} (h : ∀ y ∈ rows, y.xs.length ≤ y.c ∧ ∀ M', View.le F M' → SlA M' (eK .u8) 1 y.a y.xs y.b y.o) (hF : View.le F F') (hx : x.xs.length ≤ x.c ∧ ∀ M', View.le F' M' → SlA M' (eK .u8) 1 x.a x.xs x.b x.o) :
    ∀ y ∈ rows ++ [x], y.xs.length ≤ y.c ∧ ∀ M', View.le F' M' → SlA M' (eK .u8) 1 y.a y.xs y.b y.o := fun y hy => by
  rcases List.mem_append.1 hy with hy | hy
  · obtain ⟨h1, h2⟩ := h y hy
    exact ⟨h1, fun M' hM => h2 M' (View.le.trans hF hM)⟩
  · rw [List.mem_singleton] at hy
    subst hy
    exact hx
end Go.Proofs.YtelidojkpbaofaaDoor
namespace Go.Proofs.YtelidojkpbaofaaDoor
set_option maxRecDepth 20000
set_option linter.unusedSimpArgs false
set_option linter.unusedVariables false
open Go Go.Fw
attribute [local irreducible] CW OL OD FX Stp FnC FnV Ret sha strOf be8 be4 frB num4
set_option maxHeartbeats 1600000
theorem jread_spec {M : View} {w : World} (hM : View.le M (View.of w)) (hL : Laid M) {j : JV} {n c : Nat} {a : Option Addr} {bj oj : Nat} (hn : j.by_.length = n) (hnc : n ≤ c) (hb : isB j.by_) (s : SlA M (eK .u8) 1 a j.by_ bj oj) :
    FnV Tryd.prog 20 [.agg [.slice a n c, .int .i64 j.du, .int .i64 j.af].toArray] w (RowsR (readJ j)) := by
  obtain ⟨p, du, af⟩ := j
  dsimp only at hn s hb
  refine enterV (M := M) Tryd.func20 rfl rfl rfl rfl hM ?_
  have kv := fun (w' : World) => jvalid_spec w' (n := n) (c := c) (a := a) du af
  unfold readJ validJ
  dsimp only
  rw [hn]
  refine cw_none 22 ?_
  by_cases hv : validN n du af
  · rw [if_pos hv]
    rw [decide_eq_true hv] at kv
    unfold validN at hv
    generalize hL0 : readL p = L0 at *
    repeat' first
      | apply cw_seq
      | (refine cw_region_id 0 ?_; (apply ol_val; exact rfl; first | (apply s_boxN; exact rfl; intro bk1) | (apply s_box1; exact rfl; exact rfl; intro bk1)); (apply ol_as; exact rfl; exact rfl); (apply ol_nil))
      | (refine cw_region_id 1 ?_; (apply ol_ldN; exact rfl; exact rfl; exact rfl; exact sz_24; (apply RdN.own; (focus ((repeat constructor); done)); (focus ((repeat (first | exact rfl | constructor)); done)))); (apply ol_val; exact rfl; apply s_callv; exact rfl; exact gf_14; (intro w' hw'; exact kv w')); (apply ol_val; exact rfl; apply stp_pur; first | (apply s_not_t; exact rfl; (first | exact rfl | assumption)) | (apply s_not_f; exact rfl; (first | exact rfl | assumption)) | (apply s_not; exact rfl)); (apply ol_nil))
      | (refine cw_region_id 2 ?_; (apply ol_as; exact rfl; exact rfl); (apply ol_nil))
      | (refine cw_region_id 3 ?_; (apply ol_as; exact rfl; exact rfl); (apply ol_nil))
      | (refine cw_region_id 4 ?_; (apply ol_fa; exact rfl; exact rfl; exact fd_24_0; (first | exact Nat.zero_add _ | exact Nat.add_zero _ | exact rfl)); (apply ol_ld; exact rfl; exact rfl; exact rfl; (apply RdN.own; (focus ((repeat constructor); done)); exact GetN.cons rfl GetN.nil)); (apply ol_as; exact rfl; exact rfl); (apply ol_nil))
      | (apply cw_cond_true; exact rfl; (first | exact rfl | assumption))
      | (apply cw_cond_false; exact rfl; (first | exact rfl | assumption))
      | apply cw_skip
      | apply cw_ret
      | apply cw_block
      | apply cw_exit
    refine cw_loopK (σ := RdSt) [] (by (repeat (first | exact Keep.nil | (apply Keep.cons; exact rfl)))) (fun s => [(3, .slice (base s.r none) s.rows.length s.cp), (4, .slice s.Aq (n - s.d) s.cq)]) (fun s => s.V) (fun s => [⟨s.r, flat Sl.enc s.rows ++ s.sp, 22⟩]) (RdInv M w p n bj oj L0) (fun s => n - s.d) ⟨0, a, c, [], none, 0, [], M, View.nil⟩ (by (repeat (first | exact trivial | refine And.intro rfl ?_))) (View.le.refl _) (by (repeat (first | exact Pick.nil | (apply Pick.cons; (focus ((repeat (first | exact Spl.here | apply Spl.there)); done))) | exact Pick.refl))) ⟨Nat.zero_le _, by simpa using s, hnc, by simpa using hL0, Nat.le_refl _, SO.nil 1, View.le.refl _, View.nil_le _, View.fresh_nil _, fun x hx => by cases hx⟩ ?_
    clear s hL0 hnc
    rintro ⟨d, Aq, cq, rows, r, cp, sp, V, F⟩ ⟨id, iq, ic, ir, ill, iso, imv, ifv, iff, isl⟩
    dsimp only at id iq ic ir ill iso imv ifv iff isl
    dsimp only
    have hbq : isB (p.drop d) := .of fun x hx => hb.mem x (List.mem_of_mem_drop hx)
    have hql : (p.drop d).length = n - d := by rw [List.length_drop, hn]
    have hdd : ∀ e, p.drop (d + e) = (p.drop d).drop e := fun e => by rw [List.drop_drop]
    generalize hqe : p.drop d = q at *
    by_cases h36 : 36 ≤ n - d
    · have hA := iq.at_ (by omega)
      subst hA
      have iqV := iq.mono imv
      have b0 := hbq 0
      have b1 := hbq 1
      have b2 := hbq 2
      have b3 := hbq 3
      have hor := or4_i64 b0 b1 b2 b3
      have hg : ∀ i, i < 4 → ∀ {off : Nat}, off = oj + d + i → GetN (V.cell bj) off 1 [.int .u8 (q.getD i 0)] := fun i hi off e => by
        have := iqV.cells i (by omega)
        rw [e, show oj + d + i = oj + d + i * 1 by omega, show q.getD i 0 = q[i]'(by omega) by simp [List.getD, List.getElem?_eq_getElem (show i < q.length by omega)]]
        exact this
      have g0 := fun {off : Nat} (e : off = oj + d + 0) => hg 0 (by decide) e
      have g1 := fun {off : Nat} (e : off = oj + d + 1) => hg 1 (by decide) e
      have g2 := fun {off : Nat} (e : off = oj + d + 2) => hg 2 (by decide) e
      have g3 := fun {off : Nat} (e : off = oj + d + 3) => hg 3 (by decide) e
      clear hg
      have hnum : q.getD 0 0 * 16777216 + q.getD 1 0 * 65536 + q.getD 2 0 * 256 + q.getD 3 0 = num4 q := by unfold num4; rfl
      rw [hnum] at hor
      have hn0 : 0 ≤ num4 q := by rw [← hnum]; omega
      clear hnum
      generalize q.getD 0 0 = z0 at *
      generalize q.getD 1 0 = z1 at *
      generalize q.getD 2 0 = z2 at *
      generalize q.getD 3 0 = z3 at *
      have hs0 : -9223372036854775808 ≤ z0 * 2 ^ Int.toNat 24 ∧ z0 * 2 ^ Int.toNat 24 ≤ 9223372036854775807 := by rw [show (2 : Int) ^ Int.toNat 24 = 16777216 by decide]; omega
      have hs1 : -9223372036854775808 ≤ z1 * 2 ^ Int.toNat 16 ∧ z1 * 2 ^ Int.toNat 16 ≤ 9223372036854775807 := by rw [show (2 : Int) ^ Int.toNat 16 = 65536 by decide]; omega
      have hs2 : -9223372036854775808 ≤ z2 * 2 ^ Int.toNat 8 ∧ z2 * 2 ^ Int.toNat 8 ≤ 9223372036854775807 := by rw [show (2 : Int) ^ Int.toNat 8 = 256 by decide]; omega
      repeat' first
        | apply cw_seq
        | (refine cw_region_id 5 ?_; (apply ol_mv; exact rfl; exact rfl); (apply ol_val; exact rfl; apply stp_pur; apply s_len; exact rfl; exact el_22); (apply ol_val; exact rfl; apply stp_cmp; apply s_geq; exact rfl; exact rfl; all_goals (intro hc14; try (exfalso; (first | exact hc14 rfl | omega)))); all_goals (apply ol_nil))
        | (refine cw_draw (id := 6) 23 (.mv 0 (.mv 1 (.mv 2 (.mv 3 (.mv 4 (.mv 5 (.mv 6 (.mv 7 (.mv 8 (.mv 9 (.mv 10 (.mv 11 (.mv 12 (.mv 13 (.mv 14 (.mv 15 (.mv 16 (.mv 17 (.mv 18 (.mv 19 (.mv 20 (.mv 21 (.mv 22 (PT.nil)))))))))))))))))))))))) mixed (by kernel_rfl) ?_; (apply od_mv; exact rfl; exact rfl; apply s_move; exact rfl); (apply od_mv; exact rfl; exact rfl; first | (apply s_indexK; exact rfl; exact rfl; exact el_22; exact sz_5; (first | exact rfl); omega) | (apply s_indexO; exact rfl; exact rfl; exact el_22; exact sz_5; (first | exact rfl); omega)); (apply od_mv; exact rfl; exact rfl; apply s_load1; exact rfl; exact rfl; (first | (apply RdN.own; (focus ((repeat constructor); done)); (first | exact GetN.cons rfl GetN.nil | (apply getN_ints_app; (first | omega | (simp; omega) | (simp; done))) | (apply getN_ints; (first | omega | (simp; omega) | (simp; done))))) | (apply RdN.view; exact g0 (by omega)) | (apply RdN.view; exact g1 (by omega)) | (apply RdN.view; exact g2 (by omega)) | (apply RdN.view; exact g3 (by omega)))); (apply od_mv; exact rfl; exact rfl; first | (apply s_conv; exact rfl; exact rfl; exact ti_3; (focus (apply wrap_i64; omega))) | (apply s_conv; exact rfl; exact rfl; exact ti_3; exact rfl)); (apply od_mv; exact rfl; exact rfl; first | (apply s_shl64; exact rfl; exact rfl; (first | decide | omega | (simp [IntKind.bits]; omega) | (simp [IntKind.bits]; done)); omega) | (apply s_shl64; exact rfl; exact rfl; (first | decide | omega | (simp [IntKind.bits]; omega) | (simp [IntKind.bits]; done)); (first | exact hs0 | exact hs1 | exact hs2))); (apply od_mv; exact rfl; exact rfl; apply s_move; exact rfl); (apply od_mv; exact rfl; exact rfl; first | (apply s_indexK; exact rfl; exact rfl; exact el_22; exact sz_5; (first | exact rfl); omega) | (apply s_indexO; exact rfl; exact rfl; exact el_22; exact sz_5; (first | exact rfl); omega)); (apply od_mv; exact rfl; exact rfl; apply s_load1; exact rfl; exact rfl; (first | (apply RdN.own; (focus ((repeat constructor); done)); (first | exact GetN.cons rfl GetN.nil | (apply getN_ints_app; (first | omega | (simp; omega) | (simp; done))) | (apply getN_ints; (first | omega | (simp; omega) | (simp; done))))) | (apply RdN.view; exact g0 (by omega)) | (apply RdN.view; exact g1 (by omega)) | (apply RdN.view; exact g2 (by omega)) | (apply RdN.view; exact g3 (by omega)))); (apply od_mv; exact rfl; exact rfl; first | (apply s_conv; exact rfl; exact rfl; exact ti_3; (focus (apply wrap_i64; omega))) | (apply s_conv; exact rfl; exact rfl; exact ti_3; exact rfl)); (apply od_mv; exact rfl; exact rfl; first | (apply s_shl64; exact rfl; exact rfl; (first | decide | omega | (simp [IntKind.bits]; omega) | (simp [IntKind.bits]; done)); omega) | (apply s_shl64; exact rfl; exact rfl; (first | decide | omega | (simp [IntKind.bits]; omega) | (simp [IntKind.bits]; done)); (first | exact hs0 | exact hs1 | exact hs2))); (apply od_mv; exact rfl; exact rfl; apply s_or; exact rfl; exact rfl); (apply od_mv; exact rfl; exact rfl; apply s_move; exact rfl); (apply od_mv; exact rfl; exact rfl; first | (apply s_indexK; exact rfl; exact rfl; exact el_22; exact sz_5; (first | exact rfl); omega) | (apply s_indexO; exact rfl; exact rfl; exact el_22; exact sz_5; (first | exact rfl); omega)); (apply od_mv; exact rfl; exact rfl; apply s_load1; exact rfl; exact rfl; (first | (apply RdN.own; (focus ((repeat constructor); done)); (first | exact GetN.cons rfl GetN.nil | (apply getN_ints_app; (first | omega | (simp; omega) | (simp; done))) | (apply getN_ints; (first | omega | (simp; omega) | (simp; done))))) | (apply RdN.view; exact g0 (by omega)) | (apply RdN.view; exact g1 (by omega)) | (apply RdN.view; exact g2 (by omega)) | (apply RdN.view; exact g3 (by omega)))); (apply od_mv; exact rfl; exact rfl; first | (apply s_conv; exact rfl; exact rfl; exact ti_3; (focus (apply wrap_i64; omega))) | (apply s_conv; exact rfl; exact rfl; exact ti_3; exact rfl)); (apply od_mv; exact rfl; exact rfl; first | (apply s_shl64; exact rfl; exact rfl; (first | decide | omega | (simp [IntKind.bits]; omega) | (simp [IntKind.bits]; done)); omega) | (apply s_shl64; exact rfl; exact rfl; (first | decide | omega | (simp [IntKind.bits]; omega) | (simp [IntKind.bits]; done)); (first | exact hs0 | exact hs1 | exact hs2))); (apply od_mv; exact rfl; exact rfl; apply s_or; exact rfl; exact rfl); (apply od_mv; exact rfl; exact rfl; apply s_move; exact rfl); (apply od_mv; exact rfl; exact rfl; first | (apply s_indexK; exact rfl; exact rfl; exact el_22; exact sz_5; (first | exact rfl); omega) | (apply s_indexO; exact rfl; exact rfl; exact el_22; exact sz_5; (first | exact rfl); omega)); (apply od_mv; exact rfl; exact rfl; apply s_load1; exact rfl; exact rfl; (first | (apply RdN.own; (focus ((repeat constructor); done)); (first | exact GetN.cons rfl GetN.nil | (apply getN_ints_app; (first | omega | (simp; omega) | (simp; done))) | (apply getN_ints; (first | omega | (simp; omega) | (simp; done))))) | (apply RdN.view; exact g0 (by omega)) | (apply RdN.view; exact g1 (by omega)) | (apply RdN.view; exact g2 (by omega)) | (apply RdN.view; exact g3 (by omega)))); (apply od_mv; exact rfl; exact rfl; first | (apply s_conv; exact rfl; exact rfl; exact ti_3; (focus (apply wrap_i64; omega))) | (apply s_conv; exact rfl; exact rfl; exact ti_3; exact rfl)); (apply od_mv; exact rfl; exact rfl; apply s_or; exact rfl; exact rfl); (apply od_mv; exact rfl; exact rfl; apply s_assign; exact rfl); (apply od_nil; (first | exact Wk.refl _ _ | (focus (apply Wk.mk; (first | exact View.le.refl _ | assumption | exact View.le.trans (by assumption) (by assumption)); (repeat constructor); done)))); (apply ol_nil))
        | (apply cw_cond_true; exact rfl; (first | exact rfl | assumption))
        | (apply cw_cond_false; exact rfl; (first | exact rfl | assumption))
        | apply cw_skip
        | apply cw_ret
        | apply cw_block
        | apply cw_exit
      rw [hor]
      obtain ⟨k, hk⟩ := Int.eq_ofNat_of_zero_le hn0
      rw [hk]
      by_cases hok : k ≤ 16384 ∧ 36 + k ≤ n - d
      · have hrl : ((q.drop 36).take k).length = k := by rw [List.length_take, List.length_drop]; omega
        have s1 := SlA.sub iqV (l := 36) (h := 36 + k) (m := cq) (by omega) (by omega) (by omega)
        rw [List.drop_take, show 36 + k - 36 = k by omega] at s1
        have s2 := SlA.sub iqV (l := 4) (h := 36) (m := cq) (by decide) (by omega) (by omega)
        rw [List.drop_take, show 36 - 4 = 32 by decide] at s2
        have hhl : ((q.drop 4).take 32).length = 32 := by rw [List.length_take, List.length_drop]; omega
        have s2a := SlA.all (eK_length .u8) s2
        rw [hhl] at s2a
        have hA2 : slicedA (some ⟨bj, oj + d, none⟩) 4 cq 1 = some ⟨bj, oj + d + 4 * 1, none⟩ := slicedA_some (by omega)
        have hbr : isB ((q.drop 36).take k) := hbq.part 36 k
        have k1 := fun (w' : World) (hw' : View.le V (View.of w')) => sum_spec hw' (hL.mono imv) (c := cq - 36) (n := 36 + k - 36) (by rw [hrl]; omega) (by omega) hbr s1
        have hstep := readL_step (p := q) (by omega) (by rw [hk]; omega) hn0
        rw [hk, show ((k : Int)).toNat = k by omega] at hstep
        have hstop := readL_stop (p := q)
        rw [hk, show ((k : Int)).toNat = k by omega] at hstop
        have hsl := sha_length ((q.drop 36).take k)
        have s3 := SlA.sub iq (l := 36 + k) (h := q.length) (m := cq) (by omega) (Nat.le_refl _) (by omega)
        rw [List.take_length, ← hdd] at s3
        generalize hRe : (q.drop 36).take k = R at *
        by_cases hsh : sha R = (q.drop 4).take 32
        · have hstep := hstep (by omega) hsh
          rw [hstep] at ir
          clear hstop hstep
          rw [← hsh] at s2a
          clear hsh
          generalize sha R = S at *
          repeat' first
            | apply cw_seq
            | (refine cw_region_id 7 ?_; (apply ol_mv; exact rfl; exact rfl); (apply ol_val; exact rfl; apply stp_cmp; apply s_gtr; exact rfl; exact rfl; all_goals (intro hc38; try (exfalso; (first | exact hc38 rfl | omega | exact absurd rfl hc56)))); all_goals (apply ol_mv; exact rfl; exact rfl); all_goals (first | (apply ol_gskip; exact rfl; exact rfl; (first | exact rfl | assumption); exact rfl) | (apply ol_gval; exact rfl; exact rfl; exact rfl; (first | exact rfl | assumption); apply stp_pur; apply s_move; exact rfl)); all_goals (first | (apply ol_gskip; exact rfl; exact rfl; (first | exact rfl | assumption); exact rfl) | (apply ol_gval; exact rfl; exact rfl; exact rfl; (first | exact rfl | assumption); apply stp_pur; apply s_len; exact rfl; exact el_22)); all_goals (first | (apply ol_gskip; exact rfl; exact rfl; (first | exact rfl | assumption); exact rfl) | (apply ol_gval; exact rfl; exact rfl; exact rfl; (first | exact rfl | assumption); apply stp_pur; apply s_move; exact rfl)); all_goals (first | (apply ol_gskip; exact rfl; exact rfl; (first | exact rfl | assumption); exact rfl) | (apply ol_gval; exact rfl; exact rfl; exact rfl; (first | exact rfl | assumption); apply stp_pur; apply s_add64; exact rfl; exact rfl; omega)); all_goals (first | (apply ol_gskip; exact rfl; exact rfl; (first | exact rfl | assumption); exact rfl) | (apply ol_gval; exact rfl; exact rfl; exact rfl; (first | exact rfl | assumption); apply stp_cmp; apply s_lss; exact rfl; exact rfl; all_goals (intro hc44; try (exfalso; (first | exact hc44 rfl | omega | exact absurd rfl hc56))))); all_goals (apply ol_val; exact rfl; apply stp_pur; first | (apply s_pick_t; exact rfl; (first | exact rfl | assumption); exact rfl) | (apply s_pick_f; exact rfl; (first | exact rfl | assumption); exact rfl)); all_goals (apply ol_nil))
            | (refine cw_region_id 8 ?_; (apply ol_mv; exact rfl; exact rfl); (apply ol_mv; exact rfl; exact rfl); (apply ol_val; exact rfl; apply stp_pur; apply s_add64; exact rfl; exact rfl; omega); (apply ol_val; exact rfl; apply stp_pur; apply s_slice; exact rfl; exact el_22; exact sz_5; (first | exact (show bnd _ _ _ 36 from Exists.intro _ rfl) | exact ⟨.i64, congrArg (fun z => some (Value.int .i64 z)) (show (36 : Int) + (k : Int) = ((36 + k : Nat) : Int) by omega)⟩); (first | exact ⟨.i64, congrArg (fun z => some (Value.int .i64 z)) (show (36 : Int) + (k : Int) = ((36 + k : Nat) : Int) by omega)⟩ | exact Exists.intro _ rfl); exact rfl; (intro h; first | exact rfl | cases h); (first | omega | (simp; omega) | (simp; done)); (first | omega | (simp; omega) | (simp; done)); (first | omega | (simp; omega) | (simp; done))); (apply ol_as; exact rfl; exact rfl); (apply ol_nil))
            | (refine cw_draw (id := 9) 7 (.mv 0 (.mv 2 (.mv 3 (.mv 4 (.mv 5 (.fx 1 (.mv 6 (PT.nil)))))))) mixed (by kernel_rfl) ?_; (apply od_mv; exact rfl; exact rfl; apply s_move; exact rfl); (apply od_mv; exact rfl; exact rfl; apply s_move; exact rfl); (apply od_mv; exact rfl; exact rfl; apply s_slice; exact rfl; exact el_22; exact sz_5; (first | exact (show bnd _ _ _ 4 from Exists.intro _ rfl) | exact ⟨.i64, congrArg (fun z => some (Value.int .i64 z)) (show (36 : Int) + (k : Int) = ((36 + k : Nat) : Int) by omega)⟩); (first | exact (show bnd _ _ _ 36 from Exists.intro _ rfl) | exact ⟨.i64, congrArg (fun z => some (Value.int .i64 z)) (show (36 : Int) + (k : Int) = ((36 + k : Nat) : Int) by omega)⟩); exact rfl; (intro h; first | exact rfl | cases h); (first | omega | (simp; omega) | (simp; done)); (first | omega | (simp; omega) | (simp; done)); (first | omega | (simp; omega) | (simp; done))); (apply od_mv; exact rfl; exact rfl; apply s_arrayAt; exact rfl; exact ar_67; (first | exact rfl | exact hA2); omega); (apply od_mv; exact rfl; exact rfl; apply s_loadN; exact rfl; exact rfl; exact sz_67; (first | (apply RdN.own; (focus ((repeat constructor); done)); (apply getNK_all; (first | assumption | (rw [List.length_replicate])))) | (apply RdN.view; exact s2a))); (apply od_fx; (first | exact Wk.refl _ _ | (focus (apply Wk.mk; (first | exact View.le.refl _ | assumption | exact View.le.trans (by assumption) (by assumption)); (repeat constructor); done))); (apply fx_val; exact rfl; exact rfl; apply s_callv; exact rfl; exact gf_39; (intro w' hw'; exact k1 w' hw'.le))); (apply od_cmp; exact rfl; exact rfl; apply s_neqA; exact rfl; exact rfl; exact ia_67; exact rfl; exact rfl; (first | omega | assumption | (rw [List.length_replicate]; done) | exact rfl); (first | omega | assumption | (rw [List.length_replicate]; done) | exact rfl); all_goals (intro hc56; try (exfalso; (first | exact hc56 rfl | omega | exact absurd rfl hc56)))); all_goals (apply od_nil; (first | exact Wk.refl _ _ | (focus (apply Wk.mk; (first | exact View.le.refl _ | assumption | exact View.le.trans (by assumption) (by assumption)); (repeat constructor); done)))); all_goals (apply ol_nil))
            | (refine cw_region_id 10 ?_; (apply ol_mv; exact rfl; exact rfl); (apply ol_mv; exact rfl; exact rfl); (apply ol_val; exact rfl; apply s_call; exact rfl; exact gf_30; (intro w' hw'; exact cloneS_spec hw'.le (by rw [hrl]; omega) s1 (by omega)); ((intro v new h; obtain ⟨r59, A59, c59, s59, rfl, rfl, so59⟩ := h; rcases r59 with _ | q59; all_goals try (refine ol_freeze (b := q59) (cs := flat (eK .u8) R ++ s59) (T := 5) (by (focus ((repeat (first | exact Spl.here | apply Spl.there)); done))) ?_; intro ob fz hob hno hnew)))); all_goals (apply ol_val; exact rfl; apply s_buildSl; exact rfl; exact el_36; exact sz_22; exact zb_22; (focus ((repeat constructor); done)); exact rfl; exact rfl; (exact Nat.le_of_ble_eq_true rfl); (focus ((repeat constructor); done)); (focus ((repeat (first | exact rfl | constructor)); done)); intro bk60); all_goals (apply ol_val; exact rfl; first | (apply s_append_e; exact rfl; exact rfl; (focus ((repeat constructor); done)); exact el_36; exact sz_22; exact zb_22; exact rfl; exact by_22; (first | exact (fun _ => rfl) | (intro _; exact hA2)); (first | (apply RdN.own; (focus ((repeat constructor); done)); (focus ((repeat (first | exact rfl | constructor)); done)))); (first | exact rfl); (first | omega | (simp; omega) | (simp; done)); (first | omega | (simp; omega) | (simp; done)); intro rk61 sk61 ck61 ok61) | (apply s_append_r; exact rfl; exact rfl; (focus ((repeat constructor); done)); (first | exact rfl | exact (List.append_nil _).symm); exact el_36; exact sz_22; exact zb_22; exact rfl; exact by_22; (first | exact SO.nil _ | assumption | (exact ⟨by simp, by simp, Nat.le_refl _, by simp⟩)); (first | exact (fun _ => rfl) | (intro _; exact hA2)); (first | (apply RdN.own; (focus ((repeat constructor); done)); (focus ((repeat (first | exact rfl | constructor)); done)))); (first | exact rfl); (first | omega | (simp; omega) | (simp; done)); (first | omega | (simp; omega) | (simp; done)); intro rk61 sk61 ck61 ok61) | (apply s_append_b; exact rfl; exact rfl; (focus ((repeat constructor); done)); (first | exact rfl | exact (List.append_nil _).symm); exact el_36; exact sz_22; exact zb_22; exact rfl; exact by_22; (first | exact SO.nil _ | assumption | (exact ⟨by simp, by simp, Nat.le_refl _, by simp⟩)); (first | exact (fun _ => rfl) | (intro _; exact hA2)); (first | (apply RdN.own; (focus ((repeat constructor); done)); (focus ((repeat (first | exact rfl | constructor)); done)))); (first | exact rfl); (first | omega | (simp; omega) | (simp; done)); (first | omega | (simp; omega) | (simp; done)); intro rk61 sk61 ck61 ok61) | (apply s_append_n; exact rfl; exact rfl; (focus ((repeat constructor); done)); exact el_36; exact sz_22; exact zb_22; exact rfl; exact by_22; (first | exact (fun _ => rfl) | (intro _; exact hA2)); (first | (apply RdN.own; (focus ((repeat constructor); done)); (focus ((repeat (first | exact rfl | constructor)); done)))); (first | exact rfl); (first | omega | (simp; omega) | (simp; done)); (first | omega | (simp; omega) | (simp; done)); intro rk61 sk61 ck61 ok61)); all_goals (apply ol_as; exact rfl; exact rfl); all_goals (apply ol_nil))
            | (refine cw_region_id 11 ?_; (apply ol_mv; exact rfl; exact rfl); (apply ol_mv; exact rfl; exact rfl); (apply ol_val; exact rfl; apply stp_pur; apply s_add64; exact rfl; exact rfl; omega); (apply ol_val; exact rfl; apply stp_pur; apply s_slice; exact rfl; exact el_22; exact sz_5; (first | exact ⟨.i64, congrArg (fun z => some (Value.int .i64 z)) (show (36 : Int) + (k : Int) = ((36 + k : Nat) : Int) by omega)⟩ | exact Exists.intro _ rfl); exact rfl; exact rfl; (intro h; first | exact rfl | cases h); (first | omega | (simp; omega) | (simp; done)); (first | omega | (simp; omega) | (simp; done)); (first | omega | (simp; omega) | (simp; done))); (apply ol_as; exact rfl; exact rfl); (apply ol_nil))
            | (apply cw_cond_true; exact rfl; (first | exact rfl | assumption))
            | (apply cw_cond_false; exact rfl; (first | exact rfl | assumption))
            | apply cw_skip
            | apply cw_ret
            | apply cw_block
            | apply cw_exit
          · have hR0 : R = [] := so59.emp rfl
            refine ⟨⟨d + (36 + k), slicedA (some ⟨bj, oj + d, none⟩) (36 + k) cq 1, cq - (36 + k), rows ++ [⟨R, base none A59, 0, 0, c59⟩], rk61, ck61, sk61, V, F⟩, ⟨?_, View.le.refl _, ?_, ⟨by dsimp only; omega, ?_, by dsimp only; omega, ?_, by dsimp only; rw [List.length_append, List.length_singleton]; omega, ?_, imv, ifv, iff, RowsR.snoc isl (View.le.refl _) ⟨so59.hle, fun M' h => ?_⟩⟩, by dsimp only; omega⟩⟩
            · dsimp only
              rw [List.length_append, List.length_singleton, show n - (d + (36 + k)) = n - d - (36 + k) by omega]
              (repeat (first | exact trivial | refine And.intro rfl ?_))
            · dsimp only
              rw [flat_append, flat_one]
              (repeat (first | exact Pick.nil | (apply Pick.cons; (focus ((repeat (first | exact Spl.here | apply Spl.there)); done))) | exact Pick.refl))
            · dsimp only
              rw [show oj + (d + (36 + k)) = oj + d + (36 + k) * 1 by omega]
              exact s3
            · dsimp only
              rw [hdd, List.map_append, List.append_assoc]
              exact ir
            · dsimp only
              rw [flat_append, flat_one, List.length_append, List.length_singleton]
              exact ok61
            · dsimp only
              rw [hR0]
              exact SlA.zilch
          · have hFo : View.le (F.add q59 ob) (V.add q59 ob) := View.add_mono ifv
            have hFF : View.le F (F.add q59 ob) := View.add_le (View.none_of ifv hno)
            refine ⟨⟨d + (36 + k), slicedA (some ⟨bj, oj + d, none⟩) (36 + k) cq 1, cq - (36 + k), rows ++ [⟨R, base (some q59) A59, q59, 0, c59⟩], rk61, ck61, sk61, V.add q59 ob, F.add q59 ob⟩, ⟨?_, View.le.refl _, ?_, ⟨by dsimp only; omega, ?_, by dsimp only; omega, ?_, by dsimp only; rw [List.length_append, List.length_singleton]; omega, ?_, View.le.trans imv (View.add_le hno), hFo, View.fresh_add iff (by rcases hnew with h | h; exact h; cases h), RowsR.snoc isl hFF ⟨so59.hle, fun M' h => ?_⟩⟩, by dsimp only; omega⟩⟩
            · dsimp only
              rw [List.length_append, List.length_singleton, show n - (d + (36 + k)) = n - d - (36 + k) by omega]
              (repeat (first | exact trivial | refine And.intro rfl ?_))
            · dsimp only
              rw [flat_append, flat_one]
              (repeat (first | exact Pick.nil | (apply Pick.cons; (focus ((repeat (first | exact Spl.here | apply Spl.there)); done))) | exact Pick.refl))
            · dsimp only
              rw [show oj + (d + (36 + k)) = oj + d + (36 + k) * 1 by omega]
              exact s3
            · dsimp only
              rw [hdd, List.map_append, List.append_assoc]
              exact ir
            · dsimp only
              rw [flat_append, flat_one, List.length_append, List.length_singleton]
              exact ok61
            · have := h q59 ob View.add_same
              subst hob
              exact SlA.ofCells (eK_length .u8) this
        · have hstop := hstop (fun h => hsh h.2.2.2.2)
          repeat' first
            | apply cw_seq
            | (refine cw_region_id 7 ?_; (apply ol_mv; exact rfl; exact rfl); (apply ol_val; exact rfl; apply stp_cmp; apply s_gtr; exact rfl; exact rfl; all_goals (intro hc38; try (exfalso; (first | exact hc38 rfl | omega | exact absurd hsh hc56)))); all_goals (apply ol_mv; exact rfl; exact rfl); all_goals (first | (apply ol_gskip; exact rfl; exact rfl; (first | exact rfl | assumption); exact rfl) | (apply ol_gval; exact rfl; exact rfl; exact rfl; (first | exact rfl | assumption); apply stp_pur; apply s_move; exact rfl)); all_goals (first | (apply ol_gskip; exact rfl; exact rfl; (first | exact rfl | assumption); exact rfl) | (apply ol_gval; exact rfl; exact rfl; exact rfl; (first | exact rfl | assumption); apply stp_pur; apply s_len; exact rfl; exact el_22)); all_goals (first | (apply ol_gskip; exact rfl; exact rfl; (first | exact rfl | assumption); exact rfl) | (apply ol_gval; exact rfl; exact rfl; exact rfl; (first | exact rfl | assumption); apply stp_pur; apply s_move; exact rfl)); all_goals (first | (apply ol_gskip; exact rfl; exact rfl; (first | exact rfl | assumption); exact rfl) | (apply ol_gval; exact rfl; exact rfl; exact rfl; (first | exact rfl | assumption); apply stp_pur; apply s_add64; exact rfl; exact rfl; omega)); all_goals (first | (apply ol_gskip; exact rfl; exact rfl; (first | exact rfl | assumption); exact rfl) | (apply ol_gval; exact rfl; exact rfl; exact rfl; (first | exact rfl | assumption); apply stp_cmp; apply s_lss; exact rfl; exact rfl; all_goals (intro hc44; try (exfalso; (first | exact hc44 rfl | omega | exact absurd hsh hc56))))); all_goals (apply ol_val; exact rfl; apply stp_pur; first | (apply s_pick_t; exact rfl; (first | exact rfl | assumption); exact rfl) | (apply s_pick_f; exact rfl; (first | exact rfl | assumption); exact rfl)); all_goals (apply ol_nil))
            | (refine cw_region_id 8 ?_; (apply ol_mv; exact rfl; exact rfl); (apply ol_mv; exact rfl; exact rfl); (apply ol_val; exact rfl; apply stp_pur; apply s_add64; exact rfl; exact rfl; omega); (apply ol_val; exact rfl; apply stp_pur; apply s_slice; exact rfl; exact el_22; exact sz_5; (first | exact (show bnd _ _ _ 36 from Exists.intro _ rfl) | exact ⟨.i64, congrArg (fun z => some (Value.int .i64 z)) (show (36 : Int) + (k : Int) = ((36 + k : Nat) : Int) by omega)⟩); (first | exact ⟨.i64, congrArg (fun z => some (Value.int .i64 z)) (show (36 : Int) + (k : Int) = ((36 + k : Nat) : Int) by omega)⟩ | exact Exists.intro _ rfl); exact rfl; (intro h; first | exact rfl | cases h); (first | omega | (simp; omega) | (simp; done)); (first | omega | (simp; omega) | (simp; done)); (first | omega | (simp; omega) | (simp; done))); (apply ol_as; exact rfl; exact rfl); (apply ol_nil))
            | (refine cw_draw (id := 9) 7 (.mv 0 (.mv 2 (.mv 3 (.mv 4 (.mv 5 (.fx 1 (.mv 6 (PT.nil)))))))) mixed (by kernel_rfl) ?_; (apply od_mv; exact rfl; exact rfl; apply s_move; exact rfl); (apply od_mv; exact rfl; exact rfl; apply s_move; exact rfl); (apply od_mv; exact rfl; exact rfl; apply s_slice; exact rfl; exact el_22; exact sz_5; (first | exact (show bnd _ _ _ 4 from Exists.intro _ rfl) | exact ⟨.i64, congrArg (fun z => some (Value.int .i64 z)) (show (36 : Int) + (k : Int) = ((36 + k : Nat) : Int) by omega)⟩); (first | exact (show bnd _ _ _ 36 from Exists.intro _ rfl) | exact ⟨.i64, congrArg (fun z => some (Value.int .i64 z)) (show (36 : Int) + (k : Int) = ((36 + k : Nat) : Int) by omega)⟩); exact rfl; (intro h; first | exact rfl | cases h); (first | omega | (simp; omega) | (simp; done)); (first | omega | (simp; omega) | (simp; done)); (first | omega | (simp; omega) | (simp; done))); (apply od_mv; exact rfl; exact rfl; apply s_arrayAt; exact rfl; exact ar_67; (first | exact rfl | exact hA2); omega); (apply od_mv; exact rfl; exact rfl; apply s_loadN; exact rfl; exact rfl; exact sz_67; (first | (apply RdN.own; (focus ((repeat constructor); done)); (apply getNK_all; (first | assumption | (rw [List.length_replicate])))) | (apply RdN.view; exact s2a))); (apply od_fx; (first | exact Wk.refl _ _ | (focus (apply Wk.mk; (first | exact View.le.refl _ | assumption | exact View.le.trans (by assumption) (by assumption)); (repeat constructor); done))); (apply fx_val; exact rfl; exact rfl; apply s_callv; exact rfl; exact gf_39; (intro w' hw'; exact k1 w' hw'.le))); (apply od_cmp; exact rfl; exact rfl; apply s_neqA; exact rfl; exact rfl; exact ia_67; exact rfl; exact rfl; (first | omega | assumption | (rw [List.length_replicate]; done) | exact rfl); (first | omega | assumption | (rw [List.length_replicate]; done) | exact rfl); all_goals (intro hc56; try (exfalso; (first | exact hc56 rfl | omega | exact absurd hsh hc56)))); all_goals (apply od_nil; (first | exact Wk.refl _ _ | (focus (apply Wk.mk; (first | exact View.le.refl _ | assumption | exact View.le.trans (by assumption) (by assumption)); (repeat constructor); done)))); all_goals (apply ol_nil))
            | (refine cw_region_id 12 ?_; (apply ol_mv; exact rfl; exact rfl); (apply ol_as; exact rfl; exact rfl); (apply ol_nil))
            | (apply cw_cond_true; exact rfl; (first | exact rfl | assumption))
            | (apply cw_cond_false; exact rfl; (first | exact rfl | assumption))
            | apply cw_skip
            | apply cw_ret
            | apply cw_block
            | apply cw_exit
          refine endsV [⟨r, flat Sl.enc rows ++ sp, 22⟩] F (RVal.tmp rfl RVal.nil) (by (repeat (first | exact Pick.nil | (apply Pick.cons; (focus ((repeat (first | exact Spl.here | apply Spl.there)); done))) | exact Pick.refl))) ifv iff ?_
          exact ⟨rows, r, cp, sp, rfl, rfl, iso, by rw [hstop, List.append_nil] at ir; exact ir, isl⟩
      · have hstop := readL_stop (p := q) (fun h => hok (by obtain ⟨_, h2, _, h4, _⟩ := h; rw [hk] at h2 h4; omega))
        repeat' first
          | apply cw_seq
          | (refine cw_region_id 7 ?_; (apply ol_mv; exact rfl; exact rfl); (apply ol_val; exact rfl; apply stp_cmp; apply s_gtr; exact rfl; exact rfl; all_goals (intro hc38; try (exfalso; (first | exact hc38 rfl | omega)))); all_goals (apply ol_mv; exact rfl; exact rfl); all_goals (first | (apply ol_gskip; exact rfl; exact rfl; (first | exact rfl | assumption); exact rfl) | (apply ol_gval; exact rfl; exact rfl; exact rfl; (first | exact rfl | assumption); apply stp_pur; apply s_move; exact rfl)); all_goals (first | (apply ol_gskip; exact rfl; exact rfl; (first | exact rfl | assumption); exact rfl) | (apply ol_gval; exact rfl; exact rfl; exact rfl; (first | exact rfl | assumption); apply stp_pur; apply s_len; exact rfl; exact el_22)); all_goals (first | (apply ol_gskip; exact rfl; exact rfl; (first | exact rfl | assumption); exact rfl) | (apply ol_gval; exact rfl; exact rfl; exact rfl; (first | exact rfl | assumption); apply stp_pur; apply s_move; exact rfl)); all_goals (first | (apply ol_gskip; exact rfl; exact rfl; (first | exact rfl | assumption); exact rfl) | (apply ol_gval; exact rfl; exact rfl; exact rfl; (first | exact rfl | assumption); apply stp_pur; apply s_add64; exact rfl; exact rfl; omega)); all_goals (first | (apply ol_gskip; exact rfl; exact rfl; (first | exact rfl | assumption); exact rfl) | (apply ol_gval; exact rfl; exact rfl; exact rfl; (first | exact rfl | assumption); apply stp_cmp; apply s_lss; exact rfl; exact rfl; all_goals (intro hc44; try (exfalso; (first | exact hc44 rfl | omega))))); all_goals (apply ol_val; exact rfl; apply stp_pur; first | (apply s_pick_t; exact rfl; (first | exact rfl | assumption); exact rfl) | (apply s_pick_f; exact rfl; (first | exact rfl | assumption); exact rfl)); all_goals (apply ol_nil))
          | (refine cw_region_id 12 ?_; (apply ol_mv; exact rfl; exact rfl); (apply ol_as; exact rfl; exact rfl); (apply ol_nil))
          | (apply cw_cond_true; exact rfl; (first | exact rfl | assumption))
          | (apply cw_cond_false; exact rfl; (first | exact rfl | assumption))
          | apply cw_skip
          | apply cw_ret
          | apply cw_block
          | apply cw_exit
        all_goals
          refine endsV [⟨r, flat Sl.enc rows ++ sp, 22⟩] F (RVal.tmp rfl RVal.nil) (by (repeat (first | exact Pick.nil | (apply Pick.cons; (focus ((repeat (first | exact Spl.here | apply Spl.there)); done))) | exact Pick.refl))) ifv iff ?_
          exact ⟨rows, r, cp, sp, rfl, rfl, iso, by rw [hstop, List.append_nil] at ir; exact ir, isl⟩
    · have hstop := readL_stop (p := q) (fun h => h36 (by obtain ⟨h1, _⟩ := h; omega))
      repeat' first
        | apply cw_seq
        | (refine cw_region_id 5 ?_; (apply ol_mv; exact rfl; exact rfl); (apply ol_val; exact rfl; apply stp_pur; apply s_len; exact rfl; exact el_22); (apply ol_val; exact rfl; apply stp_cmp; apply s_geq; exact rfl; exact rfl; all_goals (intro hc14; try (exfalso; (first | exact hc14 rfl | omega)))); all_goals (apply ol_nil))
        | (refine cw_region_id 12 ?_; (apply ol_mv; exact rfl; exact rfl); (apply ol_as; exact rfl; exact rfl); (apply ol_nil))
        | (apply cw_cond_true; exact rfl; (first | exact rfl | assumption))
        | (apply cw_cond_false; exact rfl; (first | exact rfl | assumption))
        | apply cw_skip
        | apply cw_ret
        | apply cw_block
        | apply cw_exit
      refine endsV [⟨r, flat Sl.enc rows ++ sp, 22⟩] F (RVal.tmp rfl RVal.nil) (by (repeat (first | exact Pick.nil | (apply Pick.cons; (focus ((repeat (first | exact Spl.here | apply Spl.there)); done))) | exact Pick.refl))) ifv iff ?_
      exact ⟨rows, r, cp, sp, rfl, rfl, iso, by rw [hstop, List.append_nil] at ir; exact ir, isl⟩
  · rw [if_neg hv]
    rw [decide_eq_false hv] at kv
    repeat' first
      | apply cw_seq
      | (refine cw_region_id 0 ?_; (apply ol_val; exact rfl; first | (apply s_boxN; exact rfl; intro bk1) | (apply s_box1; exact rfl; exact rfl; intro bk1)); (apply ol_as; exact rfl; exact rfl); (apply ol_nil))
      | (refine cw_region_id 1 ?_; (apply ol_ldN; exact rfl; exact rfl; exact rfl; exact sz_24; (apply RdN.own; (focus ((repeat constructor); done)); (focus ((repeat (first | exact rfl | constructor)); done)))); (apply ol_val; exact rfl; apply s_callv; exact rfl; exact gf_14; (intro w' hw'; exact kv w')); (apply ol_val; exact rfl; apply stp_pur; first | (apply s_not_t; exact rfl; (first | exact rfl | assumption)) | (apply s_not_f; exact rfl; (first | exact rfl | assumption)) | (apply s_not; exact rfl)); (apply ol_nil))
      | (refine cw_region_id 2 ?_; (apply ol_as; exact rfl; exact rfl); (apply ol_nil))
      | (refine cw_region_id 3 ?_; (apply ol_as; exact rfl; exact rfl); (apply ol_nil))
      | (refine cw_region_id 4 ?_; (apply ol_fa; exact rfl; exact rfl; exact fd_24_0; (first | exact Nat.zero_add _ | exact Nat.add_zero _ | exact rfl)); (apply ol_ld; exact rfl; exact rfl; exact rfl; (apply RdN.own; (focus ((repeat constructor); done)); exact GetN.cons rfl GetN.nil)); (apply ol_as; exact rfl; exact rfl); (apply ol_nil))
      | (apply cw_cond_true; exact rfl; (first | exact rfl | assumption))
      | (apply cw_cond_false; exact rfl; (first | exact rfl | assumption))
      | apply cw_skip
      | apply cw_ret
      | apply cw_block
      | apply cw_exit
    refine endsV [⟨none, [], 22⟩] View.nil (RVal.tmp rfl RVal.nil) (by (repeat (first | exact Pick.nil | (apply Pick.cons; (focus ((repeat (first | exact Spl.here | apply Spl.there)); done))) | exact Pick.refl))) (View.nil_le _) (View.fresh_nil _) ?_
    exact ⟨[], none, 0, [], rfl, rfl, SO.nil 1, rfl, fun x hx => by cases hx⟩
end Go.Proofs.YtelidojkpbaofaaDoor
