/-
  The law JournalBack.
-/
import Derived.Test.YtelidojkpbaofaaDoorJ16
namespace Go.Proofs.YtelidojkpbaofaaDoor
set_option maxRecDepth 20000
set_option linter.unusedSimpArgs false
set_option linter.unusedVariables false
open Go Go.Fw
theorem isB_framesB {L : List (List Int)} (h : ∀ b ∈ L, isB b) : isB (framesB L) := by
  induction L with
  | nil => exact isB_nil
  | cons b L ih => exact (isB_frB b (h b (by simp))).append (ih fun x hx => h x (by simp [hx]))
theorem read_whole {L : List (List Int)} (hL : ∀ b ∈ L, b.length ≤ 300) {du af : Int} (hv : validJ ⟨framesB L, du, af⟩) : readJ ⟨framesB L, du, af⟩ = L := by
  unfold readJ
  rw [if_pos hv]
  have := read_frames (L := L) (fun b hb => by have := hL b hb; omega) []
  rw [List.append_nil, readL_nil, List.append_nil] at this
  exact this
theorem wrN_m1 (n : Nat) : wrN (-1) n = n := by unfold wrN; rw [if_pos rfl]
theorem wrA_m1 (n : Nat) : wrA (-1) n = -1 := by unfold wrA; rw [if_pos rfl]
theorem app_m1 {P b : List Int} (hP : P.length ≤ 10080) (hb : b.length ≤ 300) : appJ ⟨P, 0, -1⟩ b = (⟨P ++ frB b, 0, -1⟩, 0) := by
  unfold appJ wrJ
  rw [if_neg (fun h => h (by unfold validJ validN; dsimp only; omega)), if_neg (by dsimp only; omega)]
  dsimp only
  rw [wrN_m1, wrN_m1, wrA_m1, if_neg (by omega), List.take_length]
theorem rew_m1 {P : List Int} {du : Int} {L : List (List Int)} (hv : validJ ⟨P, du, -1⟩) : rewS ⟨P, du, -1⟩ L = (⟨framesB L, (framesB L).length, -1⟩, 0) := by
  unfold rewS
  rw [if_neg (fun h => h hv)]
  dsimp only
  rw [wrN_m1, wrA_m1, if_neg (by omega)]
theorem valid_m1 {P : List Int} {du : Nat} (hP : P.length ≤ 10080) (hd : du ≤ P.length) : validJ ⟨P, du, -1⟩ := by unfold validJ validN; dsimp only; omega
theorem take_short {R : List (Sl Int)} (hs : shortP R) (k : Nat) : ∀ b ∈ (R.map Sl.xs).take k, b.length ≤ 300 := fun b hb => by
  obtain ⟨x, hx, rfl⟩ := List.mem_map.1 (List.mem_of_mem_take hb)
  exact hs.2 x hx
/-- What a list of short records comes to. -/
theorem back_plan {R : List (Sl Int)} (hs : shortP R) (hb : ∀ x ∈ R, isB x.xs) : ∃ G : Nat → List Int, G 0 = [] ∧ (∀ k, (G k).length ≤ 10080 ∧ isB (G k) ∧ readJ ⟨G k, 0, -1⟩ = (R.map Sl.xs).take k ∧ decide (validN (G k).length 0 (-1)) = true) ∧ (∀ k (h : k < R.length), appJ ⟨G k, 0, -1⟩ R[k].xs = (⟨G (k + 1), 0, -1⟩, 0)) ∧
    rewS ⟨G R.length, 0, -1⟩ (R.map Sl.xs) = (⟨G R.length, (G R.length).length, -1⟩, 0) ∧ readJ ⟨G R.length, (G R.length).length, -1⟩ = R.map Sl.xs := by
  have hall : (R.map Sl.xs).take R.length = R.map Sl.xs := List.take_of_length_le (by rw [List.length_map]; exact Nat.le_refl _)
  refine ⟨fun k => framesB ((R.map Sl.xs).take k), by dsimp only; rw [List.take_zero]; exact framesB_nil, fun k => ?_, fun k h => ?_, ?_, ?_⟩
  · have hl := framesB_take hs k
    refine ⟨hl, isB_framesB fun b h => ?_, read_whole (take_short hs k) (valid_m1 (du := 0) hl (Nat.zero_le _)), decide_eq_true (valid_m1 (du := 0) hl (Nat.zero_le _))⟩
    obtain ⟨x, hx, rfl⟩ := List.mem_map.1 (List.mem_of_mem_take h)
    exact hb x hx
  · dsimp only
    rw [app_m1 (framesB_take hs k) (hs.2 _ (List.getElem_mem _)), take_map_succ h, framesB_snoc]
  · dsimp only
    rw [hall]
    exact rew_m1 (valid_m1 (du := 0) (by have := framesB_take hs R.length; rwa [hall] at this) (Nat.zero_le _))
  · dsimp only
    rw [hall]
    have h1 := framesB_take hs R.length
    have h2 := take_short hs R.length
    rw [hall] at h1 h2
    exact read_whole h2 (valid_m1 h1 (Nat.le_refl _))
structure BkSt where
  k : Nat
  r : Option Nat
  A : Option Addr
  c : Nat
  sp : List Value
end Go.Proofs.YtelidojkpbaofaaDoor
namespace Go.Proofs.YtelidojkpbaofaaDoor
set_option maxRecDepth 20000
set_option linter.unusedSimpArgs false
set_option linter.unusedVariables false
open Go Go.Fw
attribute [local irreducible] CW OL OD FX Stp FnC FnV Ret sha strOf be8 be4 frB num4 appJ syncJ crashJ readJ framesB wrN wrA rewS
set_option maxHeartbeats 800000
/-- What was read is compared with a beginning of some rows. -/
theorem same_read {M N1 F1 : View} {w : World} (hM : View.le M (View.of w)) (hN : View.le N1 (View.of w)) (hF : View.le F1 N1) {R1 R : List (Sl Int)} {r1 : Option Nat} {A : Option Addr} {b o n n1 c c1 : Nat} {s1 : List Value} (hn : R.length = n) (hn1 : R1.length = n1) (hn63 : n ≤ 1073741824) (he : R1.map Sl.xs = R.map Sl.xs)
    (o1 : OB.ok ⟨r1, flat Sl.enc R1 ++ s1, 22⟩ w) (so1 : SO r1 n1 c1 (flat Sl.enc R1) s1 1) (x1 : ∀ x ∈ R1, x.xs.length ≤ x.c ∧ ∀ M', View.le F1 M' → SlA M' (eK .u8) 1 x.a x.xs x.b x.o) (hlen : ∀ x ∈ R, x.xs.length ≤ 16384) (sR : SlA (View.of w) Sl.enc 1 A R b o) (hR : ∀ x ∈ R, SlA M (eK .u8) 1 x.a x.xs x.b x.o) :
    FnC Tryd.prog 19 [.slice (base r1 none) n1 c1, .slice A n c] w (fun v _ => v = .bool true) := by
  subst hn1
  have hl1 : R1.length = n := by have := congrArg List.length he; rw [List.length_map, List.length_map] at this; omega
  refine sameL_spec (View.le.refl _) rfl hn (by omega) he (SlA.own (A := none) (fun s => s.enc_length) o1 (fun h => so1.emp h)) sR (fun x hx => ⟨?_, (x1 x hx).2 _ (View.le.trans hF hN)⟩) (fun x hx => (hR x hx).mono hM)
  have : x.xs ∈ R.map Sl.xs := by rw [← he]; exact List.mem_map.2 ⟨x, hx, rfl⟩
  obtain ⟨y, hy, e⟩ := List.mem_map.1 this
  have := hlen y hy
  rw [← e]
  omega

theorem law_back {M : View} {w : World} (hM : View.le M (View.of w)) (hL : Laid M) {m cl : Nat} {A : Option Addr} {b o : Nat} {R : List (Sl Int)} (hm : R.length = m) (hmc : m ≤ cl) (sR : SlA M Sl.enc 1 A R b o) (hR : RowsIn M R) :
    FnC Tryd.prog 7 [.slice A m cl] w (fun v _ => v = .bool true) := by
  refine enterF (M := M) Tryd.func7 rfl rfl rfl rfl hM ?_
  by_cases hs : shortP R
  · have ks := fun (w' : World) (hw' : View.le M (View.of w')) => short_yes (c := cl) hw' hm sR hs
    have kn := fun (w' : World) => jnew_spec w' (-1)
    rw [newm1] at kn
    obtain ⟨G, hG0, hG, happ, hrew, hrd⟩ := back_plan hs (fun x hx => (hR x hx).2)
    have hs' := hs
    unfold shortP at hs'
    rw [hm] at hrew hrd
    have kw : ∀ (w' : World) (hw' : View.le M (View.of w')) {r : Option Nat} {A' : Option Addr} {c' : Nat} {s' : List Value}, OB.ok ⟨r, flat (eK .u8) (G m) ++ s', 5⟩ w' → (r = none → G m = []) → FnC Tryd.prog 27 [.agg [.slice (base r A') (G m).length c', .int .i64 0, .int .i64 (-1)].toArray, .slice A m cl] w' (JRE (⟨G m, (G m).length, -1⟩, 0)) := fun w' hw' r A' c' s' ho hr => by
      have := jrew_own (P := G m) (du := 0) (af := -1) (c := c') (A := A') (cl := cl) hw' hL rfl ho hr hm (sR.mono hw') hR hs
      rwa [hrew] at this
    unfold JRE JR at kw
    dsimp only at kw
    have ksm : ∀ (w' : World) (N1 F1 : View) (hw' : View.le M (View.of w')) (hN : View.le N1 (View.of w')) (hF : View.le F1 N1) {R1 : List (Sl Int)} {r1 : Option Nat} {c1 : Nat} {s1 : List Value} (k : Nat), k ≤ m → R1.map Sl.xs = (R.map Sl.xs).take k → OB.ok ⟨r1, flat Sl.enc R1 ++ s1, 22⟩ w' → SO r1 R1.length c1 (flat Sl.enc R1) s1 1 → (∀ x ∈ R1, x.xs.length ≤ x.c ∧ ∀ M', View.le F1 M' → SlA M' (eK .u8) 1 x.a x.xs x.b x.o) →
        FnC Tryd.prog 19 [.slice (base r1 none) R1.length c1, .slice (slicedA A 0 cl 1) (k - 0) (cl - 0)] w' (fun v _ => v = .bool true) := fun w' N1 F1 hw' hN hF R1 r1 c1 s1 k hk he o1 so1 x1 => by
      have sS := SlA.sub sR (l := 0) (h := k) (m := cl) (Nat.zero_le _) (by omega) (by omega)
      rw [List.drop_zero] at sS
      exact same_read hw' hN hF (by rw [List.length_take]; omega) rfl (by omega) (by rw [he, List.map_take]) o1 so1 x1 (fun x hx => by have := hs'.2 x (List.mem_of_mem_take hx); omega) (sS.mono hw') (fun x hx => (hR x (List.mem_of_mem_take hx)).1)
    have ksa : ∀ (w' : World) (N1 F1 : View) (hw' : View.le M (View.of w')) (hN : View.le N1 (View.of w')) (hF : View.le F1 N1) {R1 : List (Sl Int)} {r1 : Option Nat} {c1 : Nat} {s1 : List Value}, R1.map Sl.xs = R.map Sl.xs → OB.ok ⟨r1, flat Sl.enc R1 ++ s1, 22⟩ w' → SO r1 R1.length c1 (flat Sl.enc R1) s1 1 → (∀ x ∈ R1, x.xs.length ≤ x.c ∧ ∀ M', View.le F1 M' → SlA M' (eK .u8) 1 x.a x.xs x.b x.o) →
        FnC Tryd.prog 19 [.slice (base r1 none) R1.length c1, .slice A m cl] w' (fun v _ => v = .bool true) := fun w' N1 F1 hw' hN hF R1 r1 c1 s1 he o1 so1 x1 =>
      same_read hw' hN hF hm rfl (by omega) he o1 so1 x1 (fun x hx => by have := hs'.2 x hx; omega) (sR.mono hw') (fun x hx => (hR x hx).1)
    have krd : ∀ (w' : World) (hw' : View.le M (View.of w')) (du : Int) (L : List (List Int)) (k : Nat), readJ ⟨G k, du, -1⟩ = L → ∀ {r : Option Nat} {A' : Option Addr} {c' : Nat} {s' : List Value}, OB.ok ⟨r, flat (eK .u8) (G k) ++ s', 5⟩ w' → (r = none → G k = []) → (G k).length ≤ c' → FnV Tryd.prog 20 [.agg [.slice (base r A') (G k).length c', .int .i64 du, .int .i64 (-1)].toArray] w' (RowsR L) := fun w' hw' du L k he r A' c' s' ho hr hc => by
      have := jread_own (P := G k) (du := du) (af := -1) (A := A') hw' hL rfl hc (hG k).2.1 ho hr
      rwa [he] at this
    have kval : ∀ (w' : World) (k : Nat) {c' : Nat} {a' : Option Addr}, FnC Tryd.prog 14 [.agg [.slice a' (G k).length c', .int .i64 0, .int .i64 (-1)].toArray] w' (fun v _ => v = .bool true) := fun w' k c' a' => by
      have := jvalid_spec w' (n := (G k).length) (c := c') (a := a') 0 (-1)
      rwa [(hG k).2.2.2] at this
    have hrd1 := fun k => (hG k).2.2.1
    generalize hLe : R.map Sl.xs = L at *
    have h0l : ((G 0).length : Nat) = 0 := by rw [hG0]; rfl
    clear hs
    refine cw_none 5 ?_
    repeat' first
      | apply cw_seq
      | (refine cw_region_id 0 ?_; (apply ol_as; exact rfl; exact rfl); (apply ol_nil))
      | (refine cw_region_id 1 ?_; (apply ol_val; exact rfl; apply s_callv; exact rfl; exact gf_10; (intro w' hw'; exact awake_spec hw'.le hL)); (apply ol_val; exact rfl; apply stp_pur; first | (apply s_not_t; exact rfl; (first | exact rfl | assumption)) | (apply s_not_f; exact rfl; (first | exact rfl | assumption)) | (apply s_not; exact rfl)); (apply ol_nil))
      | (refine cw_region_id 3 ?_; (apply ol_mv; exact rfl; exact rfl); (apply ol_val; exact rfl; apply s_callv; exact rfl; exact gf_26; (intro w' hw'; exact ks w' hw'.le)); (apply ol_val; exact rfl; apply stp_pur; first | (apply s_not_t; exact rfl; (first | exact rfl | assumption)) | (apply s_not_f; exact rfl; (first | exact rfl | assumption)) | (apply s_not; exact rfl)); (apply ol_nil))
      | (refine cw_region_id 5 ?_; (apply ol_val; exact rfl; apply s_callv; exact rfl; exact gf_17; (intro w' hw'; exact kn w')); (apply ol_val; exact rfl; apply s_alloc; exact zb_24; (focus ((repeat constructor); done)); intro bk3); (apply ol_eff; apply s_storeN; exact rfl; exact rfl; exact sz_24; exact rfl; exact rfl; (focus ((repeat constructor); done)); (focus ((repeat constructor); done))); (apply ol_nil))
      | (refine cw_region_id 6 ?_; (apply ol_mv; exact rfl; exact rfl); (apply ol_val; exact rfl; apply stp_pur; apply s_len; exact rfl; exact el_36); (apply ol_mv; exact rfl; exact rfl); (apply ol_nil))
      | (apply cw_cond_true; exact rfl; (first | exact rfl | assumption))
      | (apply cw_cond_false; exact rfl; (first | exact rfl | assumption))
      | apply cw_skip
      | apply cw_ret
      | apply cw_block
      | apply cw_exit
    refine cw_loopK (σ := BkSt) [0, 3, 16, 17] (by (repeat (first | exact Keep.nil | (apply Keep.cons; exact rfl)))) (fun s => [(18, .int .i64 s.k)]) (fun _ => M) (fun s => [⟨some bk3, [.slice (base s.r s.A) (G s.k).length s.c, .int .i64 0, .int .i64 (-1)], 24⟩, ⟨s.r, flat (eK .u8) (G s.k) ++ s.sp, 5⟩]) (fun s => s.k ≤ m ∧ (s.r = none → G s.k = []) ∧ (G s.k).length ≤ s.c) (fun s => m - s.k) ⟨0, none, none, 0, []⟩ (by (repeat (first | exact trivial | refine And.intro rfl ?_))) (View.le.refl _) (by dsimp only; rw [hG0]; (repeat (first | exact Pick.nil | (apply Pick.cons; (focus ((repeat (first | exact Spl.here | apply Spl.there)); done))) | exact Pick.refl))) ⟨Nat.zero_le _, fun _ => hG0, by dsimp only; rw [hG0]; exact Nat.le_refl _⟩ ?_
    rintro ⟨k, r, A0, cp, sp⟩ ⟨hk, hr, hc⟩
    dsimp only at hk hr hc
    dsimp only
    by_cases hk' : k < m
    · have g1 := sR.cells k (by omega)
      have hap := happ k (by omega)
      obtain ⟨sX, bX⟩ := hR (R[k]'(by omega)) (List.getElem_mem _)
      generalize R[k]'(by omega) = X at *
      have ka : ∀ (w' : World) (hw' : View.le M (View.of w')), OB.ok ⟨r, flat (eK .u8) (G k) ++ sp, 5⟩ w' → FnC Tryd.prog 12 [.agg [.slice (base r A0) (G k).length cp, .int .i64 0, .int .i64 (-1)].toArray, .slice X.a X.xs.length X.c] w' (JRE (⟨G (k + 1), 0, -1⟩, 0)) := fun w' hw' ho => by
        have := japp_own (P := G k) (du := 0) (af := -1) (c := cp) (A := A0) (cb := X.c) hw' hL rfl ho hr rfl bX sX
        rwa [hap] at this
      unfold JRE JR at ka
      dsimp only at ka
      have hr1 := hrd1 (k + 1)
      repeat' first
        | apply cw_seq
        | (refine cw_region_id 7 ?_; (apply ol_val; exact rfl; apply stp_cmp; apply s_lss; exact rfl; exact rfl; all_goals (intro hc19; try (exfalso; (first | exact hc19 rfl | omega)))); all_goals (apply ol_nil))
        | (refine cw_region_id 8 ?_; (apply ol_mv; exact rfl; exact rfl); (apply ol_val; exact rfl; apply stp_pur; first | (apply s_indexK; exact rfl; exact rfl; exact el_36; exact sz_22; (first | exact rfl | exact sR.at_ (by omega)); omega) | (apply s_indexO; exact rfl; exact rfl; exact el_36; exact sz_22; (first | exact rfl | exact sR.at_ (by omega)); omega)); (apply ol_ld; exact rfl; exact rfl; exact rfl; (first | (apply RdN.own; (focus ((repeat constructor); done)); exact GetN.cons rfl GetN.nil) | (apply RdN.view; exact g1))); (apply ol_as; exact rfl; exact rfl); (apply ol_as; exact rfl; exact rfl); (apply ol_nil))
        | (refine cw_region_id 9 ?_; (apply ol_ldN; exact rfl; exact rfl; exact rfl; exact sz_24; (first | (apply RdN.own; (focus ((repeat constructor); done)); (focus ((repeat (first | exact rfl | constructor)); done))) | (apply RdN.view; exact g1))); (apply ol_mv; exact rfl; exact rfl); (apply ol_val; exact rfl; apply s_call; exact rfl; exact gf_12; (intro w' hw'; exact ka w' hw'.le (hw'.ok_ (by (repeat (first | exact Has.here | apply Has.there))))); ((intro v new h; obtain ⟨u, rfl, rj, Aj, cj, sj, rfl, rfl, hrj, hcj⟩ := h))); (apply ol_mv; exact rfl; exact rfl); (apply ol_ex; exact rfl; exact rfl; exact rfl); (apply ol_ex; exact rfl; exact rfl; exact rfl); (apply ol_val; exact rfl; apply s_alloc; exact zb_24; (focus ((repeat constructor); done)); intro bk6); (apply ol_eff; apply s_storeN; exact rfl; exact rfl; exact sz_24; exact rfl; exact rfl; (focus ((repeat constructor); done)); (focus ((repeat constructor); done))); (apply ol_as; exact rfl; exact rfl); (apply ol_nil))
        | (refine cw_draw (id := 10) 17 (.mv 0 (.mv 1 (.mv 2 (.mv 3 (.fx 4 (.mv 5 (.mv 6 (.mv 7 (.mv 8 (.mv 10 (.mv 11 (.mv 12 (.mv 13 (.fx 9 (.fx 14 (.mv 15 (.mv 16 (PT.nil)))))))))))))))))) mixed (by kernel_rfl) ?_; (apply od_mv; exact rfl; exact rfl; apply s_move; exact rfl); (apply od_cmp; exact rfl; exact rfl; apply s_neq; exact rfl; exact rfl; all_goals (intro hc30; try (exfalso; (first | exact hc30 rfl | omega)))); all_goals (apply od_mv; exact rfl; exact rfl; apply s_move; exact rfl); all_goals (first | (apply od_gskip; exact rfl; exact rfl; exact rfl; (first | exact rfl | assumption); exact rfl) | (apply od_gmv; exact rfl; exact rfl; exact rfl; (first | exact rfl | assumption); exact rfl; apply s_loadN; exact rfl; exact rfl; exact sz_24; (first | (apply RdN.own; (focus ((repeat constructor); done)); (focus ((repeat (first | exact rfl | constructor)); done))) | (apply RdN.view; exact g1)))); all_goals (apply od_fx; (first | exact Wk.refl _ _ | (focus (apply Wk.mk; (first | exact View.le.refl _ | assumption | exact View.le.trans (by assumption) (by assumption)); (repeat constructor); done))); (first | (apply fx_gskip; exact rfl; exact rfl; exact rfl; (first | exact rfl | assumption); exact rfl) | (apply fx_gval; exact rfl; exact rfl; exact rfl; (first | exact rfl | assumption); exact rfl; apply s_callv; exact rfl; exact gf_14; (intro w' hw'; exact kval w' (k + 1))))); all_goals (first | (apply od_gskip; exact rfl; exact rfl; exact rfl; (first | exact rfl | assumption); exact rfl) | (apply od_gmv; exact rfl; exact rfl; exact rfl; (first | exact rfl | assumption); exact rfl; first | (apply s_not_t; exact rfl; (first | exact rfl | assumption)) | (apply s_not_f; exact rfl; (first | exact rfl | assumption)) | (apply s_not; exact rfl))); all_goals (apply od_mv; exact rfl; exact rfl; first | (apply s_pick_t; exact rfl; (first | exact rfl | assumption); exact rfl) | (apply s_pick_f; exact rfl; (first | exact rfl | assumption); exact rfl)); all_goals (apply od_mv; exact rfl; exact rfl; apply s_move; exact rfl); all_goals (first | (apply od_gskip; exact rfl; exact rfl; exact rfl; (first | exact rfl | assumption); exact rfl) | (apply od_gmv; exact rfl; exact rfl; exact rfl; (first | exact rfl | assumption); exact rfl; apply s_loadN; exact rfl; exact rfl; exact sz_24; (first | (apply RdN.own; (focus ((repeat constructor); done)); (focus ((repeat (first | exact rfl | constructor)); done))) | (apply RdN.view; exact g1)))); all_goals (first | (apply od_gskip; exact rfl; exact rfl; exact rfl; (first | exact rfl | assumption); exact rfl) | (apply od_gmv; exact rfl; exact rfl; exact rfl; (first | exact rfl | assumption); exact rfl; apply s_move; exact rfl)); all_goals (first | (apply od_gskip; exact rfl; exact rfl; exact rfl; (first | exact rfl | assumption); exact rfl) | (apply od_gmv; exact rfl; exact rfl; exact rfl; (first | exact rfl | assumption); exact rfl; apply s_move; exact rfl)); all_goals (first | (apply od_gskip; exact rfl; exact rfl; exact rfl; (first | exact rfl | assumption); exact rfl) | (apply od_gmv; exact rfl; exact rfl; exact rfl; (first | exact rfl | assumption); exact rfl; apply s_add64; exact rfl; exact rfl; omega)); all_goals (first | (apply od_gskip; exact rfl; exact rfl; exact rfl; (first | exact rfl | assumption); exact rfl) | (apply od_gmv; exact rfl; exact rfl; exact rfl; (first | exact rfl | assumption); exact rfl; apply s_slice; exact rfl; exact el_36; exact sz_22; exact rfl; exact Exists.intro _ rfl; exact rfl; (intro h; first | exact rfl | cases h); (first | omega | (simp; omega) | (simp; done)); (first | omega | (simp; omega) | (simp; done)); (first | omega | (simp; omega) | (simp; done)))); all_goals (apply od_fx; (first | exact Wk.refl _ _ | (focus (apply Wk.mk; (first | exact View.le.refl _ | assumption | exact View.le.trans (by assumption) (by assumption)); (repeat constructor); done))); (first | (apply fx_gskip; exact rfl; exact rfl; exact rfl; (first | exact rfl | assumption); exact rfl) | (apply fx_gval; exact rfl; exact rfl; exact rfl; (first | exact rfl | assumption); exact rfl; (apply s_callV; exact rfl; exact gf_20; (intro w' hw'; exact krd w' hw'.le 0 _ (k + 1) hr1 (hw'.ok_ (by (repeat (first | exact Has.here | apply Has.there)))) hrj hcj); (intro v F1 new N1 h hN1 hF1 _; obtain ⟨R1, r1, c1, s1, rfl, rfl, so1, e1, x1⟩ := h))))); all_goals (apply od_fx; (first | exact Wk.refl _ _ | (focus (apply Wk.mk; (first | exact View.le.refl _ | assumption | exact View.le.trans (by assumption) (by assumption)); (repeat constructor); done))); (first | (apply fx_gskip; exact rfl; exact rfl; exact rfl; (first | exact rfl | assumption); exact rfl) | (apply fx_gval; exact rfl; exact rfl; exact rfl; (first | exact rfl | assumption); exact rfl; apply s_callv; exact rfl; exact gf_19; (intro w' hw'; exact ksm w' N1 F1 (View.le.trans hN1 hw'.le) hw'.le hF1 (k + 1) (by omega) e1 (hw'.ok_ (by (repeat (first | exact Has.here | apply Has.there)))) so1 x1)))); all_goals (first | (apply od_gskip; exact rfl; exact rfl; exact rfl; (first | exact rfl | assumption); exact rfl) | (apply od_gmv; exact rfl; exact rfl; exact rfl; (first | exact rfl | assumption); exact rfl; first | (apply s_not_t; exact rfl; (first | exact rfl | assumption)) | (apply s_not_f; exact rfl; (first | exact rfl | assumption)) | (apply s_not; exact rfl))); all_goals (apply od_mv; exact rfl; exact rfl; first | (apply s_pick_t; exact rfl; (first | exact rfl | assumption); exact rfl) | (apply s_pick_f; exact rfl; (first | exact rfl | assumption); exact rfl)); all_goals (apply od_nil; (first | exact Wk.refl _ _ | (focus (apply Wk.mk; (first | exact View.le.refl _ | assumption | exact View.le.trans (by assumption) (by assumption)); (repeat constructor); done)))); all_goals (apply ol_nil))
        | (refine cw_region_id 11 ?_; (apply ol_as; exact rfl; exact rfl); (apply ol_nil))
        | (refine cw_region_id 12 ?_; (apply ol_ldN; exact rfl; exact rfl; exact rfl; exact sz_24; (first | (apply RdN.own; (focus ((repeat constructor); done)); (focus ((repeat (first | exact rfl | constructor)); done))) | (apply RdN.view; exact g1))); (apply ol_eff; apply s_storeN; exact rfl; exact rfl; exact sz_24; exact rfl; exact rfl; (focus ((repeat constructor); done)); (focus ((repeat constructor); done))); (apply ol_nil))
        | (refine cw_region_id 13 ?_; (apply ol_val; exact rfl; apply stp_pur; apply s_add64; exact rfl; exact rfl; omega); (apply ol_mv; exact rfl; exact rfl); (apply ol_nil))
        | (refine cw_region_id 14 ?_; (apply ol_ldN; exact rfl; exact rfl; exact rfl; exact sz_24; (first | (apply RdN.own; (focus ((repeat constructor); done)); (focus ((repeat (first | exact rfl | constructor)); done))) | (apply RdN.view; exact g1))); (apply ol_mv; exact rfl; exact rfl))
        | (refine cw_region_id 15 ?_; (apply ol_mv; exact rfl; exact rfl); (apply ol_val; exact rfl; apply stp_cmp; apply s_eql; exact rfl; exact rfl; all_goals (intro hc55; try (exfalso; (first | exact hc55 rfl | omega)))); all_goals (apply ol_mv; exact rfl; exact rfl); all_goals (first | (apply ol_gskip; exact rfl; exact rfl; (first | exact rfl | assumption); exact rfl) | (apply ol_gval; exact rfl; exact rfl; exact rfl; (first | exact rfl | assumption); apply stp_pur; apply s_fieldAddr'; exact rfl; exact fd_24_0; (first | exact Nat.zero_add _ | exact Nat.add_zero _ | exact rfl))); all_goals (first | (apply ol_gskip; exact rfl; exact rfl; (first | exact rfl | assumption); exact rfl) | (apply ol_gval; exact rfl; exact rfl; exact rfl; (first | exact rfl | assumption); apply stp_pur; apply s_load1; exact rfl; exact rfl; (first | (apply RdN.own; (focus ((repeat constructor); done)); exact GetN.cons rfl GetN.nil) | (apply RdN.view; exact g1)))); all_goals (first | (apply ol_gskip; exact rfl; exact rfl; (first | exact rfl | assumption); exact rfl) | (apply ol_gval; exact rfl; exact rfl; exact rfl; (first | exact rfl | assumption); apply stp_pur; apply s_fieldAddr'; exact rfl; exact fd_24_0; (first | exact Nat.zero_add _ | exact Nat.add_zero _ | exact rfl))); all_goals (first | (apply ol_gskip; exact rfl; exact rfl; (first | exact rfl | assumption); exact rfl) | (apply ol_gval; exact rfl; exact rfl; exact rfl; (first | exact rfl | assumption); apply stp_pur; apply s_load1; exact rfl; exact rfl; (first | (apply RdN.own; (focus ((repeat constructor); done)); exact GetN.cons rfl GetN.nil) | (apply RdN.view; exact g1)))); all_goals (apply ol_gskip; exact rfl; exact rfl; (first | exact rfl | assumption); exact rfl); all_goals (apply ol_val; exact rfl; apply stp_pur; first | (apply s_pick_t; exact rfl; (first | exact rfl | assumption); exact rfl) | (apply s_pick_f; exact rfl; (first | exact rfl | assumption); exact rfl)); all_goals (apply ol_mv; exact rfl; exact rfl); all_goals (first | (apply ol_gskip; exact rfl; exact rfl; (first | exact rfl | assumption); exact rfl) | (apply ol_gval; exact rfl; exact rfl; exact rfl; (first | exact rfl | assumption); apply stp_pur; apply s_fieldAddr'; exact rfl; exact fd_24_1; (first | exact Nat.zero_add _ | exact Nat.add_zero _ | exact rfl))); all_goals (first | (apply ol_gskip; exact rfl; exact rfl; (first | exact rfl | assumption); exact rfl) | (apply ol_gval; exact rfl; exact rfl; exact rfl; (first | exact rfl | assumption); apply stp_pur; apply s_load1; exact rfl; exact rfl; (first | (apply RdN.own; (focus ((repeat constructor); done)); (first | exact GetN.cons rfl GetN.nil | (apply getN_ints_app; (first | omega | (simp; omega) | (simp; done))) | (apply getN_ints; (first | omega | (simp; omega) | (simp; done))))) | (apply RdN.view; exact g1)))); all_goals (first | (apply ol_gskip; exact rfl; exact rfl; (first | exact rfl | assumption); exact rfl) | (apply ol_gval; exact rfl; exact rfl; exact rfl; (first | exact rfl | assumption); apply stp_pur; apply s_fieldAddr'; exact rfl; exact fd_24_0; (first | exact Nat.zero_add _ | exact Nat.add_zero _ | exact rfl))); all_goals (first | (apply ol_gskip; exact rfl; exact rfl; (first | exact rfl | assumption); exact rfl) | (apply ol_gval; exact rfl; exact rfl; exact rfl; (first | exact rfl | assumption); apply stp_pur; apply s_load1; exact rfl; exact rfl; (first | (apply RdN.own; (focus ((repeat constructor); done)); exact GetN.cons rfl GetN.nil) | (apply RdN.view; exact g1)))); all_goals (first | (apply ol_gskip; exact rfl; exact rfl; (first | exact rfl | assumption); exact rfl) | (apply ol_gval; exact rfl; exact rfl; exact rfl; (first | exact rfl | assumption); apply stp_pur; apply s_len; exact rfl; exact el_22)); all_goals (first | (apply ol_gskip; exact rfl; exact rfl; (first | exact rfl | assumption); exact rfl) | (apply ol_gval; exact rfl; exact rfl; exact rfl; (first | exact rfl | assumption); apply stp_cmp; apply s_eql; exact rfl; exact rfl; all_goals (intro hc69; try (exfalso; (first | exact hc69 rfl | omega))))); all_goals (apply ol_val; exact rfl; apply stp_pur; first | (apply s_pick_t; exact rfl; (first | exact rfl | assumption); exact rfl) | (apply s_pick_f; exact rfl; (first | exact rfl | assumption); exact rfl)); all_goals (apply ol_mv; exact rfl; exact rfl); all_goals (first | (apply ol_gskip; exact rfl; exact rfl; (first | exact rfl | assumption); exact rfl) | (apply ol_gval; exact rfl; exact rfl; exact rfl; (first | exact rfl | assumption); apply stp_pur; apply s_loadN; exact rfl; exact rfl; exact sz_24; (first | (apply RdN.own; (focus ((repeat constructor); done)); (focus ((repeat (first | exact rfl | constructor)); done))) | (apply RdN.view; exact g1)))); all_goals (first | (apply ol_gskip; exact rfl; exact rfl; (first | exact rfl | assumption); exact rfl) | (apply ol_gval; exact rfl; exact rfl; exact rfl; (first | exact rfl | assumption); (apply s_callV; exact rfl; exact gf_20; (intro w' hw'; exact krd w' hw'.le 0 _ (k + 1) hr1 (hw'.ok_ (by (repeat (first | exact Has.here | apply Has.there)))) hrj hcj); (intro v F1 new N1 h hN1 hF1 _; obtain ⟨R1, r1, c1, s1, rfl, rfl, so1, e1, x1⟩ := h)))); all_goals (first | (apply ol_gskip; exact rfl; exact rfl; (first | exact rfl | assumption); exact rfl) | (apply ol_gval; exact rfl; exact rfl; exact rfl; (first | exact rfl | assumption); apply stp_pur; apply s_move; exact rfl)); all_goals (first | (apply ol_gskip; exact rfl; exact rfl; (first | exact rfl | assumption); exact rfl) | (apply ol_gval; exact rfl; exact rfl; exact rfl; (first | exact rfl | assumption); apply s_callv; exact rfl; exact gf_19; (intro w' hw'; exact ksm w' N1 F1 (View.le.trans hN1 hw'.le) hw'.le hF1 (k + 1) (by omega) e1 (hw'.ok_ (by (repeat (first | exact Has.here | apply Has.there)))) so1 x1))); all_goals (apply ol_val; exact rfl; apply stp_pur; first | (apply s_pick_t; exact rfl; (first | exact rfl | assumption); exact rfl) | (apply s_pick_f; exact rfl; (first | exact rfl | assumption); exact rfl)); all_goals (apply ol_as; exact rfl; exact rfl); all_goals (apply ol_nil))
        | (apply cw_cond_true; exact rfl; (first | exact rfl | assumption))
        | (apply cw_cond_false; exact rfl; (first | exact rfl | assumption))
        | apply cw_skip
        | apply cw_ret
        | apply cw_block
        | apply cw_exit
      all_goals exact ⟨⟨k + 1, rj, Aj, cj, sj⟩, ⟨by (repeat (first | exact trivial | refine And.intro rfl ?_)), by assumption, by (repeat (first | exact Pick.nil | (apply Pick.cons; (focus ((repeat (first | exact Spl.here | apply Spl.there)); done))) | exact Pick.refl)), ⟨hk', hrj, hcj⟩, by dsimp only; omega⟩⟩
    · obtain rfl : k = m := by omega
      have keq : ∀ (w' : World) {r r' : Option Nat} {A A' : Option Addr} {c c' : Nat} {sp sp' : List Value}, OB.ok ⟨r, flat (eK .u8) (G k) ++ sp, 5⟩ w' → OB.ok ⟨r', flat (eK .u8) (G k) ++ sp', 5⟩ w' → (r = none → G k = []) → (r' = none → G k = []) → FnC Tryd.prog 29 [.slice (base r A) (G k).length c, .slice (base r' A') (G k).length c'] w' (fun v _ => v = .bool true) := fun w' r r' A A' c c' sp sp' h1 h2 e1 e2 =>
        eqB_spec (c1 := c) (c2 := c') (View.le.refl _) rfl rfl (p := true) (decide_eq_true rfl) (SlA.ownK h1 e1) (SlA.ownK h2 e2) (by have := (hG k).1; omega)
      repeat' first
        | apply cw_seq
        | (refine cw_region_id 7 ?_; (apply ol_val; exact rfl; apply stp_cmp; apply s_lss; exact rfl; exact rfl; all_goals (intro hc19; try (exfalso; (first | exact hc19 rfl | omega)))); all_goals (apply ol_nil))
        | (refine cw_region_id 14 ?_; (apply ol_ldN; exact rfl; exact rfl; exact rfl; exact sz_24; (apply RdN.own; (focus ((repeat constructor); done)); (focus ((repeat (first | exact rfl | constructor)); done)))); (apply ol_mv; exact rfl; exact rfl); (apply ol_val; exact rfl; apply s_call; exact rfl; exact gf_27; (intro w' hw'; exact kw w' hw'.le (hw'.ok_ (by (repeat (first | exact Has.here | apply Has.there)))) hr); ((intro v new h; obtain ⟨u, rfl, rj, Aj, cj, sj, rfl, rfl, hrj, hcj⟩ := h))); (apply ol_mv; exact rfl; exact rfl); (apply ol_ex; exact rfl; exact rfl; exact rfl); (apply ol_ex; exact rfl; exact rfl; exact rfl); (apply ol_val; exact rfl; apply s_alloc; exact zb_24; (focus ((repeat constructor); done)); intro bk8); (apply ol_eff; apply s_storeN; exact rfl; exact rfl; exact sz_24; exact rfl; exact rfl; (focus ((repeat constructor); done)); (focus ((repeat constructor); done))); (apply ol_as; exact rfl; exact rfl); (apply ol_nil))
        | (refine cw_region_id 15 ?_; (apply ol_mv; exact rfl; exact rfl); (apply ol_val; exact rfl; apply stp_cmp; apply s_eql; exact rfl; exact rfl; all_goals (intro hc55; try (exfalso; (first | exact hc55 rfl | omega)))); all_goals (apply ol_mv; exact rfl; exact rfl); all_goals (first | (apply ol_gskip; exact rfl; exact rfl; (first | exact rfl | assumption); exact rfl) | (apply ol_gval; exact rfl; exact rfl; exact rfl; (first | exact rfl | assumption); apply stp_pur; apply s_fieldAddr'; exact rfl; exact fd_24_0; (first | exact Nat.zero_add _ | exact Nat.add_zero _ | exact rfl))); all_goals (first | (apply ol_gskip; exact rfl; exact rfl; (first | exact rfl | assumption); exact rfl) | (apply ol_gval; exact rfl; exact rfl; exact rfl; (first | exact rfl | assumption); apply stp_pur; apply s_load1; exact rfl; exact rfl; (apply RdN.own; (focus ((repeat constructor); done)); exact GetN.cons rfl GetN.nil))); all_goals (first | (apply ol_gskip; exact rfl; exact rfl; (first | exact rfl | assumption); exact rfl) | (apply ol_gval; exact rfl; exact rfl; exact rfl; (first | exact rfl | assumption); apply stp_pur; apply s_fieldAddr'; exact rfl; exact fd_24_0; (first | exact Nat.zero_add _ | exact Nat.add_zero _ | exact rfl))); all_goals (first | (apply ol_gskip; exact rfl; exact rfl; (first | exact rfl | assumption); exact rfl) | (apply ol_gval; exact rfl; exact rfl; exact rfl; (first | exact rfl | assumption); apply stp_pur; apply s_load1; exact rfl; exact rfl; (apply RdN.own; (focus ((repeat constructor); done)); exact GetN.cons rfl GetN.nil))); all_goals (first | (apply ol_gskip; exact rfl; exact rfl; (first | exact rfl | assumption); exact rfl) | (apply ol_gval; exact rfl; exact rfl; exact rfl; (first | exact rfl | assumption); apply s_callv; exact rfl; exact gf_29; (intro w' hw'; exact keq w' (hw'.ok_ (by (repeat (first | exact Has.here | apply Has.there)))) (hw'.ok_ (by (repeat (first | exact Has.here | apply Has.there)))) hrj hr))); all_goals (apply ol_val; exact rfl; apply stp_pur; first | (apply s_pick_t; exact rfl; (first | exact rfl | assumption); exact rfl) | (apply s_pick_f; exact rfl; (first | exact rfl | assumption); exact rfl)); all_goals (apply ol_mv; exact rfl; exact rfl); all_goals (first | (apply ol_gskip; exact rfl; exact rfl; (first | exact rfl | assumption); exact rfl) | (apply ol_gval; exact rfl; exact rfl; exact rfl; (first | exact rfl | assumption); apply stp_pur; apply s_fieldAddr'; exact rfl; exact fd_24_1; (first | exact Nat.zero_add _ | exact Nat.add_zero _ | exact rfl))); all_goals (first | (apply ol_gskip; exact rfl; exact rfl; (first | exact rfl | assumption); exact rfl) | (apply ol_gval; exact rfl; exact rfl; exact rfl; (first | exact rfl | assumption); apply stp_pur; apply s_load1; exact rfl; exact rfl; (apply RdN.own; (focus ((repeat constructor); done)); (first | exact GetN.cons rfl GetN.nil | (apply getN_ints_app; (first | omega | (simp; omega) | (simp; done))) | (apply getN_ints; (first | omega | (simp; omega) | (simp; done))))))); all_goals (first | (apply ol_gskip; exact rfl; exact rfl; (first | exact rfl | assumption); exact rfl) | (apply ol_gval; exact rfl; exact rfl; exact rfl; (first | exact rfl | assumption); apply stp_pur; apply s_fieldAddr'; exact rfl; exact fd_24_0; (first | exact Nat.zero_add _ | exact Nat.add_zero _ | exact rfl))); all_goals (first | (apply ol_gskip; exact rfl; exact rfl; (first | exact rfl | assumption); exact rfl) | (apply ol_gval; exact rfl; exact rfl; exact rfl; (first | exact rfl | assumption); apply stp_pur; apply s_load1; exact rfl; exact rfl; (apply RdN.own; (focus ((repeat constructor); done)); exact GetN.cons rfl GetN.nil))); all_goals (first | (apply ol_gskip; exact rfl; exact rfl; (first | exact rfl | assumption); exact rfl) | (apply ol_gval; exact rfl; exact rfl; exact rfl; (first | exact rfl | assumption); apply stp_pur; apply s_len; exact rfl; exact el_22)); all_goals (first | (apply ol_gskip; exact rfl; exact rfl; (first | exact rfl | assumption); exact rfl) | (apply ol_gval; exact rfl; exact rfl; exact rfl; (first | exact rfl | assumption); apply stp_cmp; apply s_eql; exact rfl; exact rfl; all_goals (intro hc69; try (exfalso; (first | exact hc69 rfl | omega))))); all_goals (apply ol_val; exact rfl; apply stp_pur; first | (apply s_pick_t; exact rfl; (first | exact rfl | assumption); exact rfl) | (apply s_pick_f; exact rfl; (first | exact rfl | assumption); exact rfl)); all_goals (apply ol_mv; exact rfl; exact rfl); all_goals (first | (apply ol_gskip; exact rfl; exact rfl; (first | exact rfl | assumption); exact rfl) | (apply ol_gval; exact rfl; exact rfl; exact rfl; (first | exact rfl | assumption); apply stp_pur; apply s_loadN; exact rfl; exact rfl; exact sz_24; (apply RdN.own; (focus ((repeat constructor); done)); (focus ((repeat (first | exact rfl | constructor)); done))))); all_goals (first | (apply ol_gskip; exact rfl; exact rfl; (first | exact rfl | assumption); exact rfl) | (apply ol_gval; exact rfl; exact rfl; exact rfl; (first | exact rfl | assumption); (apply s_callV; exact rfl; exact gf_20; (intro w' hw'; exact krd w' hw'.le _ _ k hrd (hw'.ok_ (by (repeat (first | exact Has.here | apply Has.there)))) hrj hcj); (intro v F1 new N1 h hN1 hF1 _; obtain ⟨R1, r1, c1, s1, rfl, rfl, so1, e1, x1⟩ := h)))); all_goals (first | (apply ol_gskip; exact rfl; exact rfl; (first | exact rfl | assumption); exact rfl) | (apply ol_gval; exact rfl; exact rfl; exact rfl; (first | exact rfl | assumption); apply stp_pur; apply s_move; exact rfl)); all_goals (first | (apply ol_gskip; exact rfl; exact rfl; (first | exact rfl | assumption); exact rfl) | (apply ol_gval; exact rfl; exact rfl; exact rfl; (first | exact rfl | assumption); apply s_callv; exact rfl; exact gf_19; (intro w' hw'; exact ksa w' N1 F1 (View.le.trans hN1 hw'.le) hw'.le hF1 e1 (hw'.ok_ (by (repeat (first | exact Has.here | apply Has.there)))) so1 x1))); all_goals (apply ol_val; exact rfl; apply stp_pur; first | (apply s_pick_t; exact rfl; (first | exact rfl | assumption); exact rfl) | (apply s_pick_f; exact rfl; (first | exact rfl | assumption); exact rfl)); all_goals (apply ol_as; exact rfl; exact rfl); all_goals (apply ol_nil))
        | (apply cw_cond_true; exact rfl; (first | exact rfl | assumption))
        | (apply cw_cond_false; exact rfl; (first | exact rfl | assumption))
        | apply cw_skip
        | apply cw_ret
        | apply cw_block
        | apply cw_exit
      refine ends [] (RVal.tmp rfl RVal.nil) Pick.nil ?_
      rfl
  · have ks := fun (w' : World) (hw' : View.le M (View.of w')) => short_no (c := cl) hw' hm sR hs
    repeat' first
      | apply cw_seq
      | (refine cw_region_id 0 ?_; (apply ol_as; exact rfl; exact rfl); (apply ol_nil))
      | (refine cw_region_id 1 ?_; (apply ol_val; exact rfl; apply s_callv; exact rfl; exact gf_10; (intro w' hw'; exact awake_spec hw'.le hL)); (apply ol_val; exact rfl; apply stp_pur; first | (apply s_not_t; exact rfl; (first | exact rfl | assumption)) | (apply s_not_f; exact rfl; (first | exact rfl | assumption)) | (apply s_not; exact rfl)); (apply ol_nil))
      | (refine cw_region_id 3 ?_; (apply ol_mv; exact rfl; exact rfl); (apply ol_val; exact rfl; apply s_callv; exact rfl; exact gf_26; (intro w' hw'; exact ks w' hw'.le)); (apply ol_val; exact rfl; apply stp_pur; first | (apply s_not_t; exact rfl; (first | exact rfl | assumption)) | (apply s_not_f; exact rfl; (first | exact rfl | assumption)) | (apply s_not; exact rfl)); (apply ol_nil))
      | (refine cw_region_id 4 ?_; (apply ol_as; exact rfl; exact rfl); (apply ol_nil))
      | (apply cw_cond_true; exact rfl; (first | exact rfl | assumption))
      | (apply cw_cond_false; exact rfl; (first | exact rfl | assumption))
      | apply cw_skip
      | apply cw_ret
      | apply cw_block
      | apply cw_exit
    refine ends [] (RVal.tmp rfl RVal.nil) Pick.nil ?_
    rfl
end Go.Proofs.YtelidojkpbaofaaDoor
