/-
  Texts joined: A18 A19 A20 A21 A24 A25.
-/
import Derived.Test.YtagmoecojmlogaaDat
namespace Go.Proofs.Ytagmoecojmlogaa
set_option maxRecDepth 20000
set_option linter.unusedSimpArgs false
set_option linter.unusedVariables false
open Go Go.Fw
def OpR (p : SV × List MV × Nat) (v : Value) (F : View) (ys : List OB) : Prop := ∃ u l, v = .tuple #[u, l, .int .i64 p.2.2] ∧ SetR p.1 F u ∧ MsgsR p.2.1 F l ∧ ys = []
theorem svB_all {s : SV} (h : svB s = true) : (0 ≤ s.ro ∧ s.ro ≤ 1073741824) ∧ (1 ≤ s.bn ∧ s.bn ≤ 8) ∧ (0 ≤ s.bk ∧ s.bk ≤ s.bn - 1) ∧ trB s.bn s.tr = true ∧ (0 ≤ s.ph ∧ s.ph ≤ 5) ∧ (if s.bk = 0 then voB s.ph s.bn s.vo = true else s.vo.length = 0 ∧ s.ph ≠ 2 ∧ s.ph ≠ 3) := by
  unfold svB at h
  simp only [Bool.and_eq_true, inn_iff] at h
  obtain ⟨h1, h2, h3, h4, h5, h6⟩ := h
  refine ⟨h1, h2, h3, h4, h5, ?_⟩
  split at h6
  · rename_i h; rw [if_pos h]; exact h6
  · rename_i h; rw [if_neg h]; exact of_decide_eq_true h6
theorem voB_zero {bn : Int} {vo : List Int} (h : voB 0 bn vo = true) : vo = [] := by
  unfold voB at h
  rw [if_pos rfl] at h
  exact List.length_eq_zero_iff.1 (of_decide_eq_true h)
theorem voB_len {ph bn : Int} {vo : List Int} (h : voB ph bn vo = true) (hp : ph ≠ 0) : (vo.length : Int) = bn ∧ vo.getD 0 0 = 1 ∧ (hz vo = true ↔ ph < 4) ∧ ∀ v ∈ vo, 0 ≤ v ∧ v ≤ 1 := by
  unfold voB at h
  rw [if_neg hp] at h
  split at h
  · cases h
  · rename_i hn
    have hn : ¬ ((vo.length : Int) ≠ bn) ∧ ¬ (vo.getD 0 0 ≠ 1) ∧ ¬ (vo.any (fun v => !inn v 0 1) = true) := ⟨fun h => hn (.inl h), fun h => hn (.inr (.inl h)), fun h => hn (.inr (.inr h))⟩
    refine ⟨by omega, by omega, ?_, fun v hv => ?_⟩
    · unfold hz
      have h := eq_of_beq h
      rw [h, decide_eq_true_eq]
    · by_cases hi : 0 ≤ v ∧ v ≤ 1
      · exact hi
      · exact absurd (List.any_eq_true.2 ⟨v, hv, by rw [inn_false.2 hi]; rfl⟩) hn.2.2
theorem svB_vo {s : SV} (h : svB s = true) : s.vo.length ≤ 8 ∧ (s.bk = 0 → s.ph ≠ 0 → (s.vo.length : Int) = s.bn) ∧ (s.bk = 0 → s.ph = 0 → s.vo = []) := by
  obtain ⟨_, h2, _, _, h5, h6⟩ := svB_all h
  by_cases hb : s.bk = 0
  · rw [if_pos hb] at h6
    by_cases hp : s.ph = 0
    · rw [hp] at h6
      have := voB_zero h6
      exact ⟨by rw [this]; exact Nat.zero_le _, fun _ h => absurd hp h, fun _ _ => this⟩
    · have := (voB_len h6 hp).1
      exact ⟨by omega, fun _ _ => this, fun _ h => absurd h hp⟩
  · rw [if_neg hb] at h6
    exact ⟨by omega, fun h => absurd h hb, fun h => absurd h hb⟩
theorem coordP_tr (s : SV) (m : MV) : (coordP s m).1.tr = s.tr := by unfold coordP decP; (repeat' split) <;> rfl
theorem partP_tr (s : SV) (m : MV) : (partP s m).1.tr = s.tr := by unfold partP; (repeat' split) <;> rfl
theorem partP_vo (s : SV) (m : MV) : (partP s m).1.vo = s.vo := by unfold partP; (repeat' split) <;> rfl
def beginP (s : SV) : SV × List MV × Nat :=
  if svB s = true then
    if s.bk ≠ 0 ∨ s.ph ≠ 0 then (zSV, [], 6)
    else (⟨s.ro, if s.bn = 1 then 4 else 1, s.bk, s.bn, s.tr, noneV s.bn⟩, missF s.bk s.ro 1 (bodyP s.tr) 0 (noneV s.bn), 0)
  else (zSV, [], 1)
def recvP (s : SV) (m : MV) : SV × List MV × Nat :=
  if svB s = true ∧ mvB m = true then
    if m.to = s.bk ∧ m.nu = s.ro then
      if s.bk = 0 then ((coordP s m).1, (coordP s m).2, 0) else ((partP s m).1, (partP s m).2, 0)
    else (s, [], 0)
  else (zSV, [], 1)
def tickP (s : SV) : SV × List MV × Nat :=
  if svB s = true then
    if s.bk ≠ 0 then (s, if s.ph = 1 then [⟨s.bk, 0, 2, s.ro, [1]⟩] else [], 0)
    else if s.ph = 1 then (s, missF s.bk s.ro 1 (bodyP s.tr) 0 s.vo, 0)
    else (s, missF s.bk s.ro 3 [flB (cmB s.ph)] 0 s.vo, 0)
  else (zSV, [], 1)
theorem setRep {n off : Nat} {nv : List Int} (h : 1 ≤ n) (hn : noneV (n : Int) = nv) (e : off = 0) : SetAt (List.replicate n (Value.int .i64 0)) off (.int .i64 1) (flat (eK .i64) nv ++ []) := by
  subst e
  subst hn
  have h1 := SetAt.set (l := List.replicate n (Value.int .i64 0)) (n := 0) (v := .int .i64 1) (by rw [List.length_replicate]; omega)
  have h2 : (List.replicate n (Value.int .i64 0)).set 0 (.int .i64 1) = flat (eK .i64) (noneV n) ++ [] := by
    rw [List.append_nil, flatK_map]
    unfold noneV
    obtain ⟨k, rfl⟩ : ∃ k, n = k + 1 := ⟨n - 1, by omega⟩
    rw [Int.toNat_natCast, Nat.add_sub_cancel, List.replicate_succ, List.set_cons_zero, List.map_cons, List.map_replicate]
  rw [h2] at h1
  exact h1
end Go.Proofs.Ytagmoecojmlogaa
namespace Go.Proofs.Ytagmoecojmlogaa
set_option maxRecDepth 20000
set_option linter.unusedSimpArgs false
set_option linter.unusedVariables false
open Go Go.Fw
attribute [local irreducible] CW OL OD FX Stp FnC FnV FnA FnM Ret svB noneV hz bodyP strOf mvB coordP partP
set_option maxHeartbeats 1600000
theorem begin_spec {M : View} {w : World} (hM : View.le M (View.of w)) {s : LS} (hs : LsV M s) : FnM Try.prog 19 [.agg s.enc.toArray] w [] (OpR (beginP s.val)) := by
  have kv := fun (w' : World) (h : View.le M (View.of w')) => valid_spec' h hs
  unfold beginP
  cases hv : svB s.val with
  | false =>
    rw [hv] at kv
    rw [if_neg (by simp)]
    unfold LS.enc at kv ⊢
    refine enterW (M := M) Try.func19 rfl rfl rfl rfl hM (fun _ h => by cases h) (fun _ h => by cases h) List.nodup_nil ?_
    repeat' first
      | apply cw_seq
      | (refine cw_region_id 0 ?_; (apply ol_val; rfl; first | (apply s_boxN; rfl; intro bk1) | (apply s_box1; rfl; rfl; intro bk1)); (apply ol_val; rfl; apply s_alloc; exact zb_25; exact qN; intro bk2); (apply ol_as; rfl; rfl); (apply ol_as; rfl; rfl); (apply ol_nil))
      | (refine cw_region_id 1 ?_; (apply ol_ldN; rfl; rfl; rfl; exact sz_25; exact qQ); (apply ol_val; rfl; apply s_callv; rfl; exact gf_24; (intro w' hw'; exact kv w' hw'.le)); (apply ol_val; rfl; apply stp_pur; first | (apply s_not_t; rfl; exact qA) | (apply s_not_f; rfl; exact qA) | (apply s_not; rfl)); (apply ol_as; rfl; rfl); (apply ol_nil))
      | (refine cw_region_id 2 ?_; (apply ol_val; rfl; apply stp_pur; apply s_buildS; rfl; exact fs_25; exact zb_25; exact qR); (apply ol_eff; apply s_storeN; rfl; rfl; exact sz_25; rfl; rfl; exact qN; exact qN); (apply ol_as; rfl; rfl); (apply ol_as; rfl; rfl); (apply ol_nil))
      | (apply cw_cond_true; rfl; exact qA)
      | (apply cw_cond_false; rfl; exact qA)
      | apply cw_skip
      | apply cw_ret
      | apply cw_block
      | apply cw_exit
    all_goals (exact endsW [] [] View.nil (RVal.cellN rfl rfl rfl (RdN.own (by (repeat (first | exact Has.here | apply Has.there))) (by focus ((repeat (first | rfl | constructor)); done))) (RVal.tmp rfl (RVal.tmp rfl RVal.nil))) Pick.nil (View.nil_le _) (View.freshM_nil _ _) (fun F _ _ => ⟨_, _, rfl, SetR.zero F, MsgsR.nil F, rfl⟩))
  | true =>
    rw [hv] at kv
    rw [if_pos rfl]
    have hva := svB_all hv
    have hvo := svB_vo hv
    have htl := (trB_mem hva.2.2.2.1).1
    by_cases hst : s.val.bk ≠ 0 ∨ s.val.ph ≠ 0
    · rw [if_pos hst]
      unfold LS.enc at kv ⊢
      unfold LS.val at hst
      dsimp only at hst
      refine enterW (M := M) Try.func19 rfl rfl rfl rfl hM (fun _ h => by cases h) (fun _ h => by cases h) List.nodup_nil ?_
      repeat' first
        | apply cw_seq
        | (refine cw_region_id 0 ?_; (apply ol_val; rfl; first | (apply s_boxN; rfl; intro bk1) | (apply s_box1; rfl; rfl; intro bk1)); (apply ol_val; rfl; apply s_alloc; exact zb_25; exact qN; intro bk2); (apply ol_as; rfl; rfl); (apply ol_as; rfl; rfl); (apply ol_nil))
        | (refine cw_region_id 1 ?_; (apply ol_ldN; rfl; rfl; rfl; exact sz_25; exact qQ); (apply ol_val; rfl; apply s_callv; rfl; exact gf_24; (intro w' hw'; exact kv w' hw'.le)); (apply ol_val; rfl; apply stp_pur; first | (apply s_not_t; rfl; exact qA) | (apply s_not_f; rfl; exact qA) | (apply s_not; rfl)); (apply ol_as; rfl; rfl); (apply ol_nil))
        | (refine cw_region_id 3 ?_; (apply ol_fa; rfl; rfl; exact fd_25_2; exact qZ); (apply ol_ld; rfl; rfl; rfl; exact qP); (apply ol_val; rfl; apply stp_cmp; apply s_neq; rfl; rfl; all_goals (intro hc14; try (exfalso; (first | exact hc14 rfl | omega)))); all_goals (apply ol_mv; rfl; rfl); all_goals (first | (apply ol_gskip; rfl; rfl; exact qA; rfl) | (apply ol_gval; rfl; rfl; rfl; exact qA; apply stp_pur; apply s_fieldAddr'; rfl; exact fd_25_1; exact qZ)); all_goals (first | (apply ol_gskip; rfl; rfl; exact qA; rfl) | (apply ol_gval; rfl; rfl; rfl; exact qA; apply stp_pur; apply s_load1; rfl; rfl; exact qP)); all_goals (first | (apply ol_gskip; rfl; rfl; exact qA; rfl) | (apply ol_gval; rfl; rfl; rfl; exact qA; apply stp_cmp; apply s_neq; rfl; rfl; all_goals (intro hc18; try (exfalso; (first | exact hc18 rfl | omega))))); all_goals (apply ol_val; rfl; apply stp_pur; first | (apply s_pick_t; rfl; exact qA; rfl) | (apply s_pick_f; rfl; exact qA; rfl)); all_goals (apply ol_as; rfl; rfl); all_goals (apply ol_nil))
        | (refine cw_region_id 4 ?_; (apply ol_val; rfl; apply stp_pur; apply s_buildS; rfl; exact fs_25; exact zb_25; exact qR); (apply ol_eff; apply s_storeN; rfl; rfl; exact sz_25; rfl; rfl; exact qN; exact qN); (apply ol_as; rfl; rfl); (apply ol_as; rfl; rfl); (apply ol_nil))
        | (apply cw_cond_true; rfl; exact qA)
        | (apply cw_cond_false; rfl; exact qA)
        | apply cw_skip
        | apply cw_ret
        | apply cw_block
        | apply cw_exit
      all_goals (exact endsW [] [] View.nil (RVal.cellN rfl rfl rfl (RdN.own (by (repeat (first | exact Has.here | apply Has.there))) (by focus ((repeat (first | rfl | constructor)); done))) (RVal.tmp rfl (RVal.tmp rfl RVal.nil))) Pick.nil (View.nil_le _) (View.freshM_nil _ _) (fun F _ _ => ⟨_, _, rfl, SetR.zero F, MsgsR.nil F, rfl⟩))
    · rw [if_neg hst]
      have hbn := hva.2.1
      obtain ⟨n, hn⟩ : ∃ n : Nat, s.val.bn = n := ⟨s.val.bn.toNat, by omega⟩
      obtain ⟨nv, hnv, hnl⟩ : ∃ nv, noneV (n : Int) = nv ∧ nv.length = n := ⟨_, rfl, noneV_len (by omega)⟩
      have hbb := bodyP_b s.val.tr
      have hbl := bodyP_length s.val.tr
      have hl1 := hs.lt
      have ho := fun (w' : World) (h : View.le M (View.of w')) => open_spec h hs
      unfold LS.enc LS.val OpenR at *
      obtain ⟨ro, ph, bk, bn, ⟨tr, ta, tb, to, tc⟩, ⟨vo, va, vb, vo', vc⟩⟩ := s
      dsimp only at *
      subst hn
      rw [hnv]
      have hset := fun {off : Nat} (e : off = 0) => setRep (by omega) hnv e
      subst hnl
      clear hvo hva hv
      refine enterW (M := M) Try.func19 rfl rfl rfl rfl hM (fun _ h => by cases h) (fun _ h => by cases h) List.nodup_nil ?_
      refine cw_none 28 ?_
      by_cases h1 : (nv.length : Int) = 1
      · rw [if_pos h1]
        repeat' first
          | apply cw_seq
          | (refine cw_region_id 0 ?_; (apply ol_val; rfl; first | (apply s_boxN; rfl; intro bk1) | (apply s_box1; rfl; rfl; intro bk1)); (apply ol_val; rfl; apply s_alloc; exact zb_25; exact qN; intro bk2); (apply ol_as; rfl; rfl); (apply ol_as; rfl; rfl); (apply ol_nil))
          | (refine cw_region_id 1 ?_; (apply ol_ldN; rfl; rfl; rfl; exact sz_25; exact qQ); (apply ol_val; rfl; apply s_callv; rfl; exact gf_24; (intro w' hw'; exact kv w' hw'.le)); (apply ol_val; rfl; apply stp_pur; first | (apply s_not_t; rfl; exact qA) | (apply s_not_f; rfl; exact qA) | (apply s_not; rfl)); (apply ol_as; rfl; rfl); (apply ol_nil))
          | (refine cw_region_id 3 ?_; (apply ol_fa; rfl; rfl; exact fd_25_2; exact qZ); (apply ol_ld; rfl; rfl; rfl; exact qP); (apply ol_val; rfl; apply stp_cmp; apply s_neq; rfl; rfl; all_goals (intro hc14; try (exfalso; (first | exact hc14 rfl | omega)))); all_goals (apply ol_mv; rfl; rfl); all_goals (first | (apply ol_gskip; rfl; rfl; exact qA; rfl) | (apply ol_gval; rfl; rfl; rfl; exact qA; apply stp_pur; apply s_fieldAddr'; rfl; exact fd_25_1; exact qZ)); all_goals (first | (apply ol_gskip; rfl; rfl; exact qA; rfl) | (apply ol_gval; rfl; rfl; rfl; exact qA; apply stp_pur; apply s_load1; rfl; rfl; exact qP)); all_goals (first | (apply ol_gskip; rfl; rfl; exact qA; rfl) | (apply ol_gval; rfl; rfl; rfl; exact qA; apply stp_cmp; apply s_neq; rfl; rfl; all_goals (intro hc18; try (exfalso; (first | exact hc18 rfl | omega))))); all_goals (apply ol_val; rfl; apply stp_pur; first | (apply s_pick_t; rfl; exact qA; rfl) | (apply s_pick_f; rfl; exact qA; rfl)); all_goals (apply ol_as; rfl; rfl); all_goals (apply ol_nil))
          | (refine cw_region_id 5 ?_; (apply ol_ldN; rfl; rfl; rfl; exact sz_25; exact qQ); (apply ol_val; rfl; apply s_callM (xs := []); rfl; exact gf_33; (focus ((repeat (first | exact Pk.nil | (apply Pk.cons; (repeat (first | exact Spl.here | apply Spl.there))))); done)); (intro w' M2 hw' hrd; exact ho w' hw'.le); (intro v F22 ys M22 h hl22 hL22 hF22; obtain ⟨sb, ta', tb', to', tc', rv, Av, cv, spv, hst, rfl, rfl, so⟩ := h)); (apply ol_as; rfl; rfl); (apply ol_nil))
          | (refine cw_region_id 6 ?_; (apply ol_mv; rfl; rfl); (apply ol_mv; rfl; rfl); (apply ol_val; rfl; apply stp_pur; apply s_nilCheck; rfl); (apply ol_fa; rfl; rfl; exact fd_70_0; exact qZ); (apply ol_fa; rfl; rfl; exact fd_25_3; exact qZ); (apply ol_ld; rfl; rfl; rfl; exact qP); (apply ol_val; rfl; apply s_makeB; rfl; rfl; exact el_23; exact sz_3; exact zb_3; rfl; exact by_3; omega; omega; omega; intro bk29); (apply ol_val; rfl; apply stp_pur; apply s_nilCheck; rfl); (apply ol_fa; rfl; rfl; exact fd_70_0; exact qZ); (apply ol_fa; rfl; rfl; exact fd_25_5; exact qZ); (apply ol_eff; apply s_store1; rfl; rfl; exact sz_23; rfl; exact qN; (first | exact qN | (exact hset (by first | rfl | omega)) | (apply SetAt.set; exact qO))); (apply ol_nil))
          | (refine cw_region_id 7 ?_; (apply ol_mv; rfl; rfl); (apply ol_val; rfl; apply stp_pur; apply s_nilCheck; rfl); (apply ol_fa; rfl; rfl; exact fd_70_0; exact qZ); (apply ol_fa; rfl; rfl; exact fd_25_5; exact qZ); (apply ol_ld; rfl; rfl; rfl; exact qP); (apply ol_val; rfl; apply stp_pur; first | (apply s_indexK; rfl; rfl; exact el_23; exact sz_3; (first | rfl); omega) | (apply s_indexO; rfl; rfl; exact el_23; exact sz_3; (first | rfl); omega)); (apply ol_eff; apply s_store1; rfl; rfl; exact sz_3; rfl; exact qN; (first | exact qN | (exact hset (by first | rfl | omega)) | (apply SetAt.set; exact qO))); (apply ol_nil))
          | (refine cw_region_id 8 ?_; (apply ol_mv; rfl; rfl); (apply ol_val; rfl; apply stp_pur; apply s_nilCheck; rfl); (apply ol_fa; rfl; rfl; exact fd_70_0; exact qZ); (apply ol_fa; rfl; rfl; exact fd_25_1; exact qZ); (apply ol_eff; apply s_store1; rfl; rfl; exact sz_3; rfl; exact qN; (first | exact qN | (exact hset (by first | rfl | omega)) | (apply SetAt.set; exact qO))); (apply ol_nil))
          | (refine cw_region_id 9 ?_; (apply ol_mv; rfl; rfl); (apply ol_val; rfl; apply stp_pur; apply s_nilCheck; rfl); (apply ol_fa; rfl; rfl; exact fd_70_0; exact qZ); (apply ol_fa; rfl; rfl; exact fd_25_3; exact qZ); (apply ol_ld; rfl; rfl; rfl; exact qP); (apply ol_val; rfl; apply stp_cmp; apply s_eql; rfl; rfl; all_goals (intro hc48; try (exfalso; (first | exact hc48 rfl | omega)))); all_goals (apply ol_nil))
          | (refine cw_region_id 10 ?_; (apply ol_mv; rfl; rfl); (apply ol_val; rfl; apply stp_pur; apply s_nilCheck; rfl); (apply ol_fa; rfl; rfl; exact fd_70_0; exact qZ); (apply ol_fa; rfl; rfl; exact fd_25_1; exact qZ); (apply ol_eff; apply s_store1; rfl; rfl; exact sz_3; rfl; exact qN; (first | exact qN | (exact hset (by first | rfl | omega)) | (apply SetAt.set; exact qO))); (apply ol_nil))
          | (refine cw_region_id 11 ?_; (apply ol_mv; rfl; rfl); (apply ol_mv; rfl; rfl); (apply ol_val; rfl; apply stp_pur; apply s_nilCheck; rfl); (apply ol_fa; rfl; rfl; exact fd_70_0; exact qZ); (apply ol_fa; rfl; rfl; exact fd_25_4; exact qZ); (apply ol_ld; rfl; rfl; rfl; exact qP); (apply ol_val; rfl; apply s_call; rfl; exact gf_43; (intro w' hw'; exact body_spec hw'.le rfl htl (hst.mono hL22)); ((intro v new h; obtain ⟨r59, A59, c59, s59, rfl, rfl, so59⟩ := h))); (apply ol_val; rfl; apply s_callM (xs := [stB sb ro 4 bk nv.length (.slice ta' tr.length tc') (.slice (some ⟨bk29, 0, none⟩) nv.length nv.length) none ([] : List LM).length 0, ⟨none, flat LM.enc [] ++ [], 28⟩]); rfl; exact gf_42; (focus ((repeat (first | exact Pk.nil | (apply Pk.cons; (repeat (first | exact Spl.here | apply Spl.there))))); done)); (intro w' M2 hw' hrd; exact missing_spec hrd.lw hrd.ok hrd.sep hrd.nd (SO.nil 5) (by simp) (by omega) (SlA.inV (r := some bk29) (A := none) (sp := []) (T := 3) (eK_length .i64) (hrd.row (by (repeat (first | exact Has.here | apply Has.there)))) (fun h => by cases h)) 1 (bs := bodyP tr) rfl (by omega) hbb (SlA.inV (eK_length .u8) (hrd.row (by (repeat (first | exact Has.here | apply Has.there)))) (fun h => SO.emp so59 h))); (intro v F60 ys M60 h hl60 hL60 hF60; obtain ⟨ms, rr', co', spo', hms, hval, rfl, so'⟩ := h)); (apply ol_nil))
          | (refine cw_draw (id := 12) 11 (.mv 0 (.mv 1 (.mv 2 (.mv 3 (.mv 4 (.mv 5 (.mv 6 (.mv 7 (.fx 8 (.mv 9 (.mv 10 (PT.nil)))))))))))) mixed (by kernel_rfl) ?_; (apply od_mv; rfl; rfl; apply s_move; rfl); (apply od_mv; rfl; rfl; apply s_nilCheck; rfl); (apply od_mv; rfl; rfl; apply s_fieldAddr'; rfl; exact fd_70_0; exact qZ); (apply od_mv; rfl; rfl; apply s_loadN; rfl; rfl; exact sz_25; exact qQ); (apply od_mv; rfl; rfl; apply s_move; rfl); (apply od_mv; rfl; rfl; apply s_nilCheck; rfl); (apply od_mv; rfl; rfl; apply s_fieldAddr'; rfl; exact fd_70_1; exact qZ); (apply od_mv; rfl; rfl; apply s_load1; rfl; rfl; exact qP); (apply od_fx; (first | exact Wk.refl _ _ | exact qW); (apply fx_eff; rfl; apply s_storeN; rfl; rfl; exact sz_25; rfl; rfl; exact qN; exact qN)); (apply od_mv; rfl; rfl; apply s_assign; rfl); (apply od_mv; rfl; rfl; apply s_assign; rfl); (apply od_nil; (first | exact Wk.refl _ _ | exact qW)); (apply ol_nil))
          | (refine cw_drawW (id := 12) (own0 := [stB sb ro 4 bk nv.length (.slice ta' tr.length tc') (.slice (some ⟨bk29, 0, none⟩) nv.length nv.length) rr' ([] ++ ms).length co']) 11 (.mv 0 (.mv 1 (.mv 2 (.mv 3 (.mv 4 (.mv 5 (.mv 6 (.mv 7 (.fx 8 (.mv 9 (.mv 10 (PT.nil)))))))))))) mixed (by kernel_rfl) (by (first | exact Wk.refl _ _ | exact qW)) ?_; (apply od_mv; rfl; rfl; apply s_move; rfl); (apply od_mv; rfl; rfl; apply s_nilCheck; rfl); (apply od_mv; rfl; rfl; apply s_fieldAddr'; rfl; exact fd_70_0; exact qZ); (apply od_mv; rfl; rfl; apply s_loadN; rfl; rfl; exact sz_25; exact qQ); (apply od_mv; rfl; rfl; apply s_move; rfl); (apply od_mv; rfl; rfl; apply s_nilCheck; rfl); (apply od_mv; rfl; rfl; apply s_fieldAddr'; rfl; exact fd_70_1; exact qZ); (apply od_mv; rfl; rfl; apply s_load1; rfl; rfl; exact qP); (apply od_fx; (first | exact Wk.refl _ _ | exact qW); (apply fx_eff; rfl; apply s_storeN; rfl; rfl; exact sz_25; rfl; rfl; exact qN; exact qN)); (apply od_mv; rfl; rfl; apply s_assign; rfl); (apply od_mv; rfl; rfl; apply s_assign; rfl); (apply od_nil; (first | exact Wk.refl _ _ | exact qW)); (apply ol_nil))
          | (apply cw_cond_true; rfl; exact qA)
          | (apply cw_cond_false; rfl; exact qA)
          | apply cw_skip
          | apply cw_ret
          | apply cw_block
          | apply cw_exit
        refine endsW [] [⟨rr', flat LM.enc ([] ++ ms) ++ spo', 28⟩, ⟨some bk29, flat (eK .i64) nv ++ [], 3⟩] (View.join F22 F60) (RVal.cellN rfl rfl rfl (RdN.own (by (repeat (first | exact Has.here | apply Has.there))) (by focus ((repeat (first | rfl | constructor)); done))) (RVal.tmp rfl (RVal.tmp rfl RVal.nil))) (by exact qK) (View.join_le (hL22.trans hl60) hL60) (View.freshM_join hF22 hF60) (fun F hF hz => ?_)
        exact ⟨_, _, rfl, SetR.mk (s := ⟨ro, 4, bk, nv.length, tr, nv⟩) (hst.mono ((View.join_l _ _).trans hF)) (SlA.inV (r := some bk29) (A := none) (eK_length .i64) (hz _ (List.Mem.tail _ (List.Mem.head _))) (fun h => by cases h)) hl1 (by dsimp only; omega), MsgsR.own (A := none) (hz _ (List.Mem.head _)) (fun h => SO.emp so' h) (fun m hm => (hms m hm).mono ((View.join_r (hL22.trans hl60) hL60).trans hF)) hval (by have := missF_length bk ro 1 (bodyP tr) nv 0; rw [← hval, List.length_map] at this; show ms.length ≤ _; omega), rfl⟩
      · rw [if_neg h1]
        repeat' first
          | apply cw_seq
          | (refine cw_region_id 0 ?_; (apply ol_val; rfl; first | (apply s_boxN; rfl; intro bk1) | (apply s_box1; rfl; rfl; intro bk1)); (apply ol_val; rfl; apply s_alloc; exact zb_25; exact qN; intro bk2); (apply ol_as; rfl; rfl); (apply ol_as; rfl; rfl); (apply ol_nil))
          | (refine cw_region_id 1 ?_; (apply ol_ldN; rfl; rfl; rfl; exact sz_25; exact qQ); (apply ol_val; rfl; apply s_callv; rfl; exact gf_24; (intro w' hw'; exact kv w' hw'.le)); (apply ol_val; rfl; apply stp_pur; first | (apply s_not_t; rfl; exact qA) | (apply s_not_f; rfl; exact qA) | (apply s_not; rfl)); (apply ol_as; rfl; rfl); (apply ol_nil))
          | (refine cw_region_id 3 ?_; (apply ol_fa; rfl; rfl; exact fd_25_2; exact qZ); (apply ol_ld; rfl; rfl; rfl; exact qP); (apply ol_val; rfl; apply stp_cmp; apply s_neq; rfl; rfl; all_goals (intro hc14; try (exfalso; (first | exact hc14 rfl | omega)))); all_goals (apply ol_mv; rfl; rfl); all_goals (first | (apply ol_gskip; rfl; rfl; exact qA; rfl) | (apply ol_gval; rfl; rfl; rfl; exact qA; apply stp_pur; apply s_fieldAddr'; rfl; exact fd_25_1; exact qZ)); all_goals (first | (apply ol_gskip; rfl; rfl; exact qA; rfl) | (apply ol_gval; rfl; rfl; rfl; exact qA; apply stp_pur; apply s_load1; rfl; rfl; exact qP)); all_goals (first | (apply ol_gskip; rfl; rfl; exact qA; rfl) | (apply ol_gval; rfl; rfl; rfl; exact qA; apply stp_cmp; apply s_neq; rfl; rfl; all_goals (intro hc18; try (exfalso; (first | exact hc18 rfl | omega))))); all_goals (apply ol_val; rfl; apply stp_pur; first | (apply s_pick_t; rfl; exact qA; rfl) | (apply s_pick_f; rfl; exact qA; rfl)); all_goals (apply ol_as; rfl; rfl); all_goals (apply ol_nil))
          | (refine cw_region_id 5 ?_; (apply ol_ldN; rfl; rfl; rfl; exact sz_25; exact qQ); (apply ol_val; rfl; apply s_callM (xs := []); rfl; exact gf_33; (focus ((repeat (first | exact Pk.nil | (apply Pk.cons; (repeat (first | exact Spl.here | apply Spl.there))))); done)); (intro w' M2 hw' hrd; exact ho w' hw'.le); (intro v F22 ys M22 h hl22 hL22 hF22; obtain ⟨sb, ta', tb', to', tc', rv, Av, cv, spv, hst, rfl, rfl, so⟩ := h)); (apply ol_as; rfl; rfl); (apply ol_nil))
          | (refine cw_region_id 6 ?_; (apply ol_mv; rfl; rfl); (apply ol_mv; rfl; rfl); (apply ol_val; rfl; apply stp_pur; apply s_nilCheck; rfl); (apply ol_fa; rfl; rfl; exact fd_70_0; exact qZ); (apply ol_fa; rfl; rfl; exact fd_25_3; exact qZ); (apply ol_ld; rfl; rfl; rfl; exact qP); (apply ol_val; rfl; apply s_makeB; rfl; rfl; exact el_23; exact sz_3; exact zb_3; rfl; exact by_3; omega; omega; omega; intro bk29); (apply ol_val; rfl; apply stp_pur; apply s_nilCheck; rfl); (apply ol_fa; rfl; rfl; exact fd_70_0; exact qZ); (apply ol_fa; rfl; rfl; exact fd_25_5; exact qZ); (apply ol_eff; apply s_store1; rfl; rfl; exact sz_23; rfl; exact qN; (first | exact qN | (exact hset (by first | rfl | omega)) | (apply SetAt.set; exact qO))); (apply ol_nil))
          | (refine cw_region_id 7 ?_; (apply ol_mv; rfl; rfl); (apply ol_val; rfl; apply stp_pur; apply s_nilCheck; rfl); (apply ol_fa; rfl; rfl; exact fd_70_0; exact qZ); (apply ol_fa; rfl; rfl; exact fd_25_5; exact qZ); (apply ol_ld; rfl; rfl; rfl; exact qP); (apply ol_val; rfl; apply stp_pur; first | (apply s_indexK; rfl; rfl; exact el_23; exact sz_3; (first | rfl); omega) | (apply s_indexO; rfl; rfl; exact el_23; exact sz_3; (first | rfl); omega)); (apply ol_eff; apply s_store1; rfl; rfl; exact sz_3; rfl; exact qN; (first | exact qN | (exact hset (by first | rfl | omega)) | (apply SetAt.set; exact qO))); (apply ol_nil))
          | (refine cw_region_id 8 ?_; (apply ol_mv; rfl; rfl); (apply ol_val; rfl; apply stp_pur; apply s_nilCheck; rfl); (apply ol_fa; rfl; rfl; exact fd_70_0; exact qZ); (apply ol_fa; rfl; rfl; exact fd_25_1; exact qZ); (apply ol_eff; apply s_store1; rfl; rfl; exact sz_3; rfl; exact qN; (first | exact qN | (exact hset (by first | rfl | omega)) | (apply SetAt.set; exact qO))); (apply ol_nil))
          | (refine cw_region_id 9 ?_; (apply ol_mv; rfl; rfl); (apply ol_val; rfl; apply stp_pur; apply s_nilCheck; rfl); (apply ol_fa; rfl; rfl; exact fd_70_0; exact qZ); (apply ol_fa; rfl; rfl; exact fd_25_3; exact qZ); (apply ol_ld; rfl; rfl; rfl; exact qP); (apply ol_val; rfl; apply stp_cmp; apply s_eql; rfl; rfl; all_goals (intro hc48; try (exfalso; (first | exact hc48 rfl | omega)))); all_goals (apply ol_nil))
          | (refine cw_region_id 11 ?_; (apply ol_mv; rfl; rfl); (apply ol_mv; rfl; rfl); (apply ol_val; rfl; apply stp_pur; apply s_nilCheck; rfl); (apply ol_fa; rfl; rfl; exact fd_70_0; exact qZ); (apply ol_fa; rfl; rfl; exact fd_25_4; exact qZ); (apply ol_ld; rfl; rfl; rfl; exact qP); (apply ol_val; rfl; apply s_call; rfl; exact gf_43; (intro w' hw'; exact body_spec hw'.le rfl htl (hst.mono hL22)); ((intro v new h; obtain ⟨r59, A59, c59, s59, rfl, rfl, so59⟩ := h))); (apply ol_val; rfl; apply s_callM (xs := [stB sb ro 1 bk nv.length (.slice ta' tr.length tc') (.slice (some ⟨bk29, 0, none⟩) nv.length nv.length) none ([] : List LM).length 0, ⟨none, flat LM.enc [] ++ [], 28⟩]); rfl; exact gf_42; (focus ((repeat (first | exact Pk.nil | (apply Pk.cons; (repeat (first | exact Spl.here | apply Spl.there))))); done)); (intro w' M2 hw' hrd; exact missing_spec hrd.lw hrd.ok hrd.sep hrd.nd (SO.nil 5) (by simp) (by omega) (SlA.inV (r := some bk29) (A := none) (sp := []) (T := 3) (eK_length .i64) (hrd.row (by (repeat (first | exact Has.here | apply Has.there)))) (fun h => by cases h)) 1 (bs := bodyP tr) rfl (by omega) hbb (SlA.inV (eK_length .u8) (hrd.row (by (repeat (first | exact Has.here | apply Has.there)))) (fun h => SO.emp so59 h))); (intro v F60 ys M60 h hl60 hL60 hF60; obtain ⟨ms, rr', co', spo', hms, hval, rfl, so'⟩ := h)); (apply ol_nil))
          | (refine cw_draw (id := 12) 11 (.mv 0 (.mv 1 (.mv 2 (.mv 3 (.mv 4 (.mv 5 (.mv 6 (.mv 7 (.fx 8 (.mv 9 (.mv 10 (PT.nil)))))))))))) mixed (by kernel_rfl) ?_; (apply od_mv; rfl; rfl; apply s_move; rfl); (apply od_mv; rfl; rfl; apply s_nilCheck; rfl); (apply od_mv; rfl; rfl; apply s_fieldAddr'; rfl; exact fd_70_0; exact qZ); (apply od_mv; rfl; rfl; apply s_loadN; rfl; rfl; exact sz_25; exact qQ); (apply od_mv; rfl; rfl; apply s_move; rfl); (apply od_mv; rfl; rfl; apply s_nilCheck; rfl); (apply od_mv; rfl; rfl; apply s_fieldAddr'; rfl; exact fd_70_1; exact qZ); (apply od_mv; rfl; rfl; apply s_load1; rfl; rfl; exact qP); (apply od_fx; (first | exact Wk.refl _ _ | exact qW); (apply fx_eff; rfl; apply s_storeN; rfl; rfl; exact sz_25; rfl; rfl; exact qN; exact qN)); (apply od_mv; rfl; rfl; apply s_assign; rfl); (apply od_mv; rfl; rfl; apply s_assign; rfl); (apply od_nil; (first | exact Wk.refl _ _ | exact qW)); (apply ol_nil))
          | (refine cw_drawW (id := 12) (own0 := [stB sb ro 1 bk nv.length (.slice ta' tr.length tc') (.slice (some ⟨bk29, 0, none⟩) nv.length nv.length) rr' ([] ++ ms).length co']) 11 (.mv 0 (.mv 1 (.mv 2 (.mv 3 (.mv 4 (.mv 5 (.mv 6 (.mv 7 (.fx 8 (.mv 9 (.mv 10 (PT.nil)))))))))))) mixed (by kernel_rfl) (by (first | exact Wk.refl _ _ | exact qW)) ?_; (apply od_mv; rfl; rfl; apply s_move; rfl); (apply od_mv; rfl; rfl; apply s_nilCheck; rfl); (apply od_mv; rfl; rfl; apply s_fieldAddr'; rfl; exact fd_70_0; exact qZ); (apply od_mv; rfl; rfl; apply s_loadN; rfl; rfl; exact sz_25; exact qQ); (apply od_mv; rfl; rfl; apply s_move; rfl); (apply od_mv; rfl; rfl; apply s_nilCheck; rfl); (apply od_mv; rfl; rfl; apply s_fieldAddr'; rfl; exact fd_70_1; exact qZ); (apply od_mv; rfl; rfl; apply s_load1; rfl; rfl; exact qP); (apply od_fx; (first | exact Wk.refl _ _ | exact qW); (apply fx_eff; rfl; apply s_storeN; rfl; rfl; exact sz_25; rfl; rfl; exact qN; exact qN)); (apply od_mv; rfl; rfl; apply s_assign; rfl); (apply od_mv; rfl; rfl; apply s_assign; rfl); (apply od_nil; (first | exact Wk.refl _ _ | exact qW)); (apply ol_nil))
          | (apply cw_cond_true; rfl; exact qA)
          | (apply cw_cond_false; rfl; exact qA)
          | apply cw_skip
          | apply cw_ret
          | apply cw_block
          | apply cw_exit
        refine endsW [] [⟨rr', flat LM.enc ([] ++ ms) ++ spo', 28⟩, ⟨some bk29, flat (eK .i64) nv ++ [], 3⟩] (View.join F22 F60) (RVal.cellN rfl rfl rfl (RdN.own (by (repeat (first | exact Has.here | apply Has.there))) (by focus ((repeat (first | rfl | constructor)); done))) (RVal.tmp rfl (RVal.tmp rfl RVal.nil))) (by exact qK) (View.join_le (hL22.trans hl60) hL60) (View.freshM_join hF22 hF60) (fun F hF hz => ?_)
        exact ⟨_, _, rfl, SetR.mk (s := ⟨ro, 1, bk, nv.length, tr, nv⟩) (hst.mono ((View.join_l _ _).trans hF)) (SlA.inV (r := some bk29) (A := none) (eK_length .i64) (hz _ (List.Mem.tail _ (List.Mem.head _))) (fun h => by cases h)) hl1 (by dsimp only; omega), MsgsR.own (A := none) (hz _ (List.Mem.head _)) (fun h => SO.emp so' h) (fun m hm => (hms m hm).mono ((View.join_r (hL22.trans hl60) hL60).trans hF)) hval (by have := missF_length bk ro 1 (bodyP tr) nv 0; rw [← hval, List.length_map] at this; show ms.length ≤ _; omega), rfl⟩
end Go.Proofs.Ytagmoecojmlogaa
namespace Go.Proofs.Ytagmoecojmlogaa
set_option maxRecDepth 20000
set_option linter.unusedSimpArgs false
set_option linter.unusedVariables false
open Go Go.Fw
theorem SetR.mk2 {s : SV} {tr : List C3} {F : View} {ta va : Option Addr} {tb to tc vb vo vc : Nat} (ht : s.tr = tr) (h1 : SlA F C3.enc 3 ta tr tb to) (h2 : SlA F (eK .i64) 1 va s.vo vb vo) (l1 : tr.length ≤ 100000) (l2 : s.vo.length ≤ 100000) :
    SetR s F (.agg [.int .i64 s.ro, .int .i64 s.ph, .int .i64 s.bk, .int .i64 s.bn, .slice ta tr.length tc, .slice va s.vo.length vc].toArray) := by
  subst ht
  exact SetR.mk h1 h2 l1 l2
theorem coordP_len (s : SV) (m : MV) (h : s.ph ≠ 0 → 1 ≤ s.vo.length) : (coordP s m).1.vo.length = s.vo.length := by
  unfold coordP
  split
  · rename_i hc
    have := noneV_len (h hc.2)
    unfold decP
    (repeat' split) <;> first | rfl | exact this | exact List.length_set
  · rfl
theorem coordP_ml (s : SV) (m : MV) (h : s.ph ≠ 0 → 1 ≤ s.vo.length) : (coordP s m).2.length ≤ s.vo.length + 1 := by
  unfold coordP
  split
  · rename_i hc
    have h1 := noneV_len (h hc.2)
    unfold decP
    have h2 := fun p => missF_length s.bk s.ro 3 [flB (cmB p)] (noneV s.vo.length) 0
    rw [h1] at h2
    (repeat' split) <;> first | exact Nat.zero_le _ | exact Nat.le_succ_of_le (h2 _) | exact Nat.le_add_left _ _
  · exact Nat.zero_le _
theorem partP_ml (s : SV) (m : MV) : (partP s m).2.length ≤ 1 := by
  unfold partP
  (repeat' split) <;> first | exact Nat.zero_le _ | exact Nat.le_refl _
end Go.Proofs.Ytagmoecojmlogaa
namespace Go.Proofs.Ytagmoecojmlogaa
set_option maxRecDepth 20000
set_option linter.unusedSimpArgs false
set_option linter.unusedVariables false
open Go Go.Fw
attribute [local irreducible] CW OL OD FX Stp FnC FnV FnA FnM Ret svB noneV hz bodyP strOf mvB coordP partP
set_option maxHeartbeats 1600000
theorem receive_spec {M : View} {w : World} (hM : View.le M (View.of w)) {s : LS} (hs : LsV M s) {m : LM} (hm : LmV M m) : FnM Try.prog 10 [.agg s.enc.toArray, .agg m.enc.toArray] w [] (OpR (recvP s.val m.val)) := by
  have kv := fun (w' : World) (h : View.le M (View.of w')) => valid_spec' h hs
  have ho := fun (w' : World) (h : View.le M (View.of w')) => open_spec h hs
  have km := fun (w' : World) => message_spec w' m
  have hl1 := hs.lt
  have hl2 := hs.lv
  unfold recvP
  obtain ⟨ro, ph, bk, bn, ⟨tr, ta, tb, to, tc⟩, ⟨vo, va, vb, vo', vc⟩⟩ := s
  obtain ⟨fr, tt, ki, nu, ⟨bo, ba, bb, bo', bc⟩⟩ := m
  unfold LS.enc LS.val OpenR LM.enc LM.val at *
  dsimp only at *
  refine enterW (M := M) Try.func10 rfl rfl rfl rfl hM (fun _ h => by cases h) (fun _ h => by cases h) List.nodup_nil ?_
  cases hv : svB ⟨ro, ph, bk, bn, tr, vo⟩ with
  | false =>
    rw [hv] at kv
    rw [if_neg (by simp)]
    repeat' first
      | apply cw_seq
      | (refine cw_region_id 0 ?_; (apply ol_val; rfl; first | (apply s_boxN; rfl; intro bk2) | (apply s_box1; rfl; rfl; intro bk2)); (apply ol_val; rfl; first | (apply s_boxN; rfl; intro bk3) | (apply s_box1; rfl; rfl; intro bk3)); (apply ol_val; rfl; apply s_alloc; exact zb_25; exact qN; intro bk4); (apply ol_as; rfl; rfl); (apply ol_as; rfl; rfl); (apply ol_nil))
      | (refine cw_region_id 1 ?_; (apply ol_ldN; rfl; rfl; rfl; exact sz_25; exact qQ); (apply ol_val; rfl; apply s_callv; rfl; exact gf_24; (intro w' hw'; exact kv w' hw'.le)); (apply ol_val; rfl; apply stp_pur; first | (apply s_not_t; rfl; exact qA) | (apply s_not_f; rfl; exact qA) | (apply s_not; rfl)); (apply ol_mv; rfl; rfl); (first | (apply ol_gskip; rfl; rfl; exact qA; rfl) | (apply ol_gval; rfl; rfl; rfl; exact qA; apply stp_pur; apply s_loadN; rfl; rfl; exact sz_28; exact qQ)); (apply ol_gskip; rfl; rfl; exact qA; rfl); (first | (apply ol_gskip; rfl; rfl; exact qA; rfl) | (apply ol_gval; rfl; rfl; rfl; exact qA; apply stp_pur; first | (apply s_not_t; rfl; exact qA) | (apply s_not_f; rfl; exact qA) | (apply s_not; rfl))); (apply ol_val; rfl; apply stp_pur; first | (apply s_pick_t; rfl; exact qA; rfl) | (apply s_pick_f; rfl; exact qA; rfl)); (apply ol_nil))
      | (refine cw_region_id 2 ?_; (apply ol_val; rfl; apply stp_pur; apply s_buildS; rfl; exact fs_25; exact zb_25; exact qR); (apply ol_eff; apply s_storeN; rfl; rfl; exact sz_25; rfl; rfl; exact qN; exact qN); (apply ol_as; rfl; rfl); (apply ol_as; rfl; rfl); (apply ol_nil))
      | (apply cw_cond_true; rfl; exact qA)
      | (apply cw_cond_false; rfl; exact qA)
      | apply cw_skip
      | apply cw_ret
      | apply cw_block
      | apply cw_exit
    all_goals (exact endsW [] [] View.nil (RVal.cellN rfl rfl rfl (RdN.own (by (repeat (first | exact Has.here | apply Has.there))) (by focus ((repeat (first | rfl | constructor)); done))) (RVal.tmp rfl (RVal.tmp rfl RVal.nil))) Pick.nil (View.nil_le _) (View.freshM_nil _ _) (fun F _ _ => ⟨_, _, rfl, SetR.zero F, MsgsR.nil F, rfl⟩))
  | true =>
  rw [hv] at kv
  have hva := svB_all hv
  have hvo := svB_vo hv
  have htl := (trB_mem hva.2.2.2.1).1
  dsimp only at hva hvo htl
  cases hv2 : mvB ⟨fr, tt, ki, nu, bo⟩ with
  | false =>
    rw [hv2] at km
    rw [if_neg (by simp)]
    repeat' first
      | apply cw_seq
      | (refine cw_region_id 0 ?_; (apply ol_val; rfl; first | (apply s_boxN; rfl; intro bk2) | (apply s_box1; rfl; rfl; intro bk2)); (apply ol_val; rfl; first | (apply s_boxN; rfl; intro bk3) | (apply s_box1; rfl; rfl; intro bk3)); (apply ol_val; rfl; apply s_alloc; exact zb_25; exact qN; intro bk4); (apply ol_as; rfl; rfl); (apply ol_as; rfl; rfl); (apply ol_nil))
      | (refine cw_region_id 1 ?_; (apply ol_ldN; rfl; rfl; rfl; exact sz_25; exact qQ); (apply ol_val; rfl; apply s_callv; rfl; exact gf_24; (intro w' hw'; exact kv w' hw'.le)); (apply ol_val; rfl; apply stp_pur; first | (apply s_not_t; rfl; exact qA) | (apply s_not_f; rfl; exact qA) | (apply s_not; rfl)); (apply ol_mv; rfl; rfl); (first | (apply ol_gskip; rfl; rfl; exact qA; rfl) | (apply ol_gval; rfl; rfl; rfl; exact qA; apply stp_pur; apply s_loadN; rfl; rfl; exact sz_28; exact qQ)); (first | (apply ol_gskip; rfl; rfl; exact qA; rfl) | (apply ol_gval; rfl; rfl; rfl; exact qA; apply s_callv; rfl; exact gf_32; (intro w' hw'; exact km w'))); (first | (apply ol_gskip; rfl; rfl; exact qA; rfl) | (apply ol_gval; rfl; rfl; rfl; exact qA; apply stp_pur; first | (apply s_not_t; rfl; exact qA) | (apply s_not_f; rfl; exact qA) | (apply s_not; rfl))); (apply ol_val; rfl; apply stp_pur; first | (apply s_pick_t; rfl; exact qA; rfl) | (apply s_pick_f; rfl; exact qA; rfl)); (apply ol_nil))
      | (refine cw_region_id 2 ?_; (apply ol_val; rfl; apply stp_pur; apply s_buildS; rfl; exact fs_25; exact zb_25; exact qR); (apply ol_eff; apply s_storeN; rfl; rfl; exact sz_25; rfl; rfl; exact qN; exact qN); (apply ol_as; rfl; rfl); (apply ol_as; rfl; rfl); (apply ol_nil))
      | (apply cw_cond_true; rfl; exact qA)
      | (apply cw_cond_false; rfl; exact qA)
      | apply cw_skip
      | apply cw_ret
      | apply cw_block
      | apply cw_exit
    all_goals (exact endsW [] [] View.nil (RVal.cellN rfl rfl rfl (RdN.own (by (repeat (first | exact Has.here | apply Has.there))) (by focus ((repeat (first | rfl | constructor)); done))) (RVal.tmp rfl (RVal.tmp rfl RVal.nil))) Pick.nil (View.nil_le _) (View.freshM_nil _ _) (fun F _ _ => ⟨_, _, rfl, SetR.zero F, MsgsR.nil F, rfl⟩))
  | true =>
  rw [hv2] at km
  rw [if_pos ⟨rfl, rfl⟩]
  clear hv hv2
  by_cases ht : tt = bk ∧ nu = ro
  case neg =>
    rw [if_neg ht]
    refine cw_none 28 ?_
    repeat' first
      | apply cw_seq
      | (refine cw_region_id 0 ?_; (apply ol_val; rfl; first | (apply s_boxN; rfl; intro bk2) | (apply s_box1; rfl; rfl; intro bk2)); (apply ol_val; rfl; first | (apply s_boxN; rfl; intro bk3) | (apply s_box1; rfl; rfl; intro bk3)); (apply ol_val; rfl; apply s_alloc; exact zb_25; exact qN; intro bk4); (apply ol_as; rfl; rfl); (apply ol_as; rfl; rfl); (apply ol_nil))
      | (refine cw_region_id 1 ?_; (apply ol_ldN; rfl; rfl; rfl; exact sz_25; exact qQ); (apply ol_val; rfl; apply s_callv; rfl; exact gf_24; (intro w' hw'; exact kv w' hw'.le)); (apply ol_val; rfl; apply stp_pur; first | (apply s_not_t; rfl; exact qA) | (apply s_not_f; rfl; exact qA) | (apply s_not; rfl)); (apply ol_mv; rfl; rfl); (first | (apply ol_gskip; rfl; rfl; exact qA; rfl) | (apply ol_gval; rfl; rfl; rfl; exact qA; apply stp_pur; apply s_loadN; rfl; rfl; exact sz_28; exact qQ)); (first | (apply ol_gskip; rfl; rfl; exact qA; rfl) | (apply ol_gval; rfl; rfl; rfl; exact qA; apply s_callv; rfl; exact gf_32; (intro w' hw'; exact km w'))); (first | (apply ol_gskip; rfl; rfl; exact qA; rfl) | (apply ol_gval; rfl; rfl; rfl; exact qA; apply stp_pur; first | (apply s_not_t; rfl; exact qA) | (apply s_not_f; rfl; exact qA) | (apply s_not; rfl))); (apply ol_val; rfl; apply stp_pur; first | (apply s_pick_t; rfl; exact qA; rfl) | (apply s_pick_f; rfl; exact qA; rfl)); (apply ol_nil))
      | (refine cw_region_id 3 ?_; (apply ol_ldN; rfl; rfl; rfl; exact sz_25; exact qQ); (apply ol_val; rfl; apply s_callM (xs := []); rfl; exact gf_33; (focus ((repeat (first | exact Pk.nil | (apply Pk.cons; (repeat (first | exact Spl.here | apply Spl.there))))); done)); (intro w' M2 hw' hrd; exact ho w' hw'.le); (intro v F18 ys M18 h hl18 hL18 hF18; obtain ⟨sb, ta', tb', to', tc', rv, Av, cv, spv, hst, rfl, rfl, so⟩ := h)); (apply ol_as; rfl; rfl); (apply ol_nil))
      | (refine cw_region_id 4 ?_; (apply ol_fa; rfl; rfl; exact fd_28_1; exact qZ); (apply ol_ld; rfl; rfl; rfl; exact qP); (apply ol_fa; rfl; rfl; exact fd_25_2; exact qZ); (apply ol_ld; rfl; rfl; rfl; exact qP); (apply ol_val; rfl; apply stp_cmp; apply s_eql; rfl; rfl; all_goals (intro hc23; try (exfalso; (first | exact hc23 rfl | omega)))); all_goals (apply ol_mv; rfl; rfl); all_goals (first | (apply ol_gskip; rfl; rfl; exact qA; rfl) | (apply ol_gval; rfl; rfl; rfl; exact qA; apply stp_pur; apply s_fieldAddr'; rfl; exact fd_28_3; exact qZ)); all_goals (first | (apply ol_gskip; rfl; rfl; exact qA; rfl) | (apply ol_gval; rfl; rfl; rfl; exact qA; apply stp_pur; apply s_load1; rfl; rfl; exact qP)); all_goals (first | (apply ol_gskip; rfl; rfl; exact qA; rfl) | (apply ol_gval; rfl; rfl; rfl; exact qA; apply stp_pur; apply s_fieldAddr'; rfl; exact fd_25_0; exact qZ)); all_goals (first | (apply ol_gskip; rfl; rfl; exact qA; rfl) | (apply ol_gval; rfl; rfl; rfl; exact qA; apply stp_pur; apply s_load1; rfl; rfl; exact qP)); all_goals (first | (apply ol_gskip; rfl; rfl; exact qA; rfl) | (apply ol_gval; rfl; rfl; rfl; exact qA; apply stp_cmp; apply s_eql; rfl; rfl; all_goals (intro hc29; try (exfalso; (first | exact hc29 rfl | omega))))); all_goals (apply ol_val; rfl; apply stp_pur; first | (apply s_pick_t; rfl; exact qA; rfl) | (apply s_pick_f; rfl; exact qA; rfl)); all_goals (apply ol_nil))
      | (refine cw_draw (id := 8) 11 (.mv 0 (.mv 1 (.mv 2 (.mv 3 (.mv 4 (.mv 5 (.mv 6 (.mv 7 (.fx 8 (.mv 9 (.mv 10 (PT.nil)))))))))))) mixed (by kernel_rfl) ?_; (apply od_mv; rfl; rfl; apply s_move; rfl); (apply od_mv; rfl; rfl; apply s_nilCheck; rfl); (apply od_mv; rfl; rfl; apply s_fieldAddr'; rfl; exact fd_70_0; exact qZ); (apply od_mv; rfl; rfl; apply s_loadN; rfl; rfl; exact sz_25; exact qQ); (apply od_mv; rfl; rfl; apply s_move; rfl); (apply od_mv; rfl; rfl; apply s_nilCheck; rfl); (apply od_mv; rfl; rfl; apply s_fieldAddr'; rfl; exact fd_70_1; exact qZ); (apply od_mv; rfl; rfl; apply s_load1; rfl; rfl; exact qP); (apply od_fx; (first | exact Wk.refl _ _ | exact qW); (apply fx_eff; rfl; apply s_storeN; rfl; rfl; exact sz_25; rfl; rfl; exact qN; exact qN)); (apply od_mv; rfl; rfl; apply s_assign; rfl); (apply od_mv; rfl; rfl; apply s_assign; rfl); (apply od_nil; (first | exact Wk.refl _ _ | exact qW)); (apply ol_nil))
      | (refine cw_drawW (id := 8) (own0 := [stB sb ro ph bk bn (.slice ta' tr.length tc') (.slice (base rv Av) vo.length cv) none 0 0]) 11 (.mv 0 (.mv 1 (.mv 2 (.mv 3 (.mv 4 (.mv 5 (.mv 6 (.mv 7 (.fx 8 (.mv 9 (.mv 10 (PT.nil)))))))))))) mixed (by kernel_rfl) (by (first | exact Wk.refl _ _ | exact qW)) ?_; (apply od_mv; rfl; rfl; apply s_move; rfl); (apply od_mv; rfl; rfl; apply s_nilCheck; rfl); (apply od_mv; rfl; rfl; apply s_fieldAddr'; rfl; exact fd_70_0; exact qZ); (apply od_mv; rfl; rfl; apply s_loadN; rfl; rfl; exact sz_25; exact qQ); (apply od_mv; rfl; rfl; apply s_move; rfl); (apply od_mv; rfl; rfl; apply s_nilCheck; rfl); (apply od_mv; rfl; rfl; apply s_fieldAddr'; rfl; exact fd_70_1; exact qZ); (apply od_mv; rfl; rfl; apply s_load1; rfl; rfl; exact qP); (apply od_fx; (first | exact Wk.refl _ _ | exact qW); (apply fx_eff; rfl; apply s_storeN; rfl; rfl; exact sz_25; rfl; rfl; exact qN; exact qN)); (apply od_mv; rfl; rfl; apply s_assign; rfl); (apply od_mv; rfl; rfl; apply s_assign; rfl); (apply od_nil; (first | exact Wk.refl _ _ | exact qW)); (apply ol_nil))
      | (apply cw_cond_true; rfl; exact qA)
      | (apply cw_cond_false; rfl; exact qA)
      | apply cw_skip
      | apply cw_ret
      | apply cw_block
      | apply cw_exit
    all_goals (refine endsW [] [⟨rv, flat (eK .i64) vo ++ spv, 3⟩] F18 (RVal.cellN rfl rfl rfl (RdN.own (by (repeat (first | exact Has.here | apply Has.there))) (by focus ((repeat (first | rfl | constructor)); done))) (RVal.tmp rfl (RVal.tmp rfl RVal.nil))) (by exact qK) hL18 hF18 (fun F hF hz => ?_); exact ⟨_, _, rfl, SetR.mk (s := ⟨ro, ph, bk, bn, tr, vo⟩) (hst.mono hF) (SlA.inV (eK_length .i64) (hz _ (List.Mem.head _)) (fun h => SO.emp so h)) hl1 hl2, MsgsR.nil F, rfl⟩)
  rw [if_pos ht]
  refine cw_none 28 ?_
  by_cases hb : bk = 0
  · rw [if_pos hb]
    have h1l : ph ≠ 0 → 1 ≤ vo.length := fun h => by have := hvo.2.1 hb h; omega
    obtain ⟨p, hp⟩ : ∃ p, coordP ⟨ro, ph, bk, bn, tr, vo⟩ ⟨fr, tt, ki, nu, bo⟩ = p := ⟨_, rfl⟩
    have htr : p.1.tr = tr := by rw [← hp]; exact coordP_tr _ _
    have hplen : p.1.vo.length = vo.length := by rw [← hp]; exact coordP_len _ _ h1l
    have hpml : p.2.length ≤ vo.length + 1 := by rw [← hp]; exact coordP_ml _ _ h1l
    rw [hp]
    repeat' first
      | apply cw_seq
      | (refine cw_region_id 0 ?_; (apply ol_val; rfl; first | (apply s_boxN; rfl; intro bk2) | (apply s_box1; rfl; rfl; intro bk2)); (apply ol_val; rfl; first | (apply s_boxN; rfl; intro bk3) | (apply s_box1; rfl; rfl; intro bk3)); (apply ol_val; rfl; apply s_alloc; exact zb_25; exact qN; intro bk4); (apply ol_as; rfl; rfl); (apply ol_as; rfl; rfl); (apply ol_nil))
      | (refine cw_region_id 1 ?_; (apply ol_ldN; rfl; rfl; rfl; exact sz_25; exact qQ); (apply ol_val; rfl; apply s_callv; rfl; exact gf_24; (intro w' hw'; exact kv w' hw'.le)); (apply ol_val; rfl; apply stp_pur; first | (apply s_not_t; rfl; exact qA) | (apply s_not_f; rfl; exact qA) | (apply s_not; rfl)); (apply ol_mv; rfl; rfl); (first | (apply ol_gskip; rfl; rfl; exact qA; rfl) | (apply ol_gval; rfl; rfl; rfl; exact qA; apply stp_pur; apply s_loadN; rfl; rfl; exact sz_28; exact qQ)); (first | (apply ol_gskip; rfl; rfl; exact qA; rfl) | (apply ol_gval; rfl; rfl; rfl; exact qA; apply s_callv; rfl; exact gf_32; (intro w' hw'; exact km w'))); (first | (apply ol_gskip; rfl; rfl; exact qA; rfl) | (apply ol_gval; rfl; rfl; rfl; exact qA; apply stp_pur; first | (apply s_not_t; rfl; exact qA) | (apply s_not_f; rfl; exact qA) | (apply s_not; rfl))); (apply ol_val; rfl; apply stp_pur; first | (apply s_pick_t; rfl; exact qA; rfl) | (apply s_pick_f; rfl; exact qA; rfl)); (apply ol_nil))
      | (refine cw_region_id 3 ?_; (apply ol_ldN; rfl; rfl; rfl; exact sz_25; exact qQ); (apply ol_val; rfl; apply s_callM (xs := []); rfl; exact gf_33; (focus ((repeat (first | exact Pk.nil | (apply Pk.cons; (repeat (first | exact Spl.here | apply Spl.there))))); done)); (intro w' M2 hw' hrd; exact ho w' hw'.le); (intro v F18 ys M18 h hl18 hL18 hF18; obtain ⟨sb, ta', tb', to', tc', rv, Av, cv, spv, hst, rfl, rfl, so⟩ := h)); (apply ol_as; rfl; rfl); (apply ol_nil))
      | (refine cw_region_id 4 ?_; (apply ol_fa; rfl; rfl; exact fd_28_1; exact qZ); (apply ol_ld; rfl; rfl; rfl; exact qP); (apply ol_fa; rfl; rfl; exact fd_25_2; exact qZ); (apply ol_ld; rfl; rfl; rfl; exact qP); (apply ol_val; rfl; apply stp_cmp; apply s_eql; rfl; rfl; all_goals (intro hc23; try (exfalso; (first | exact hc23 rfl | omega)))); all_goals (apply ol_mv; rfl; rfl); all_goals (first | (apply ol_gskip; rfl; rfl; exact qA; rfl) | (apply ol_gval; rfl; rfl; rfl; exact qA; apply stp_pur; apply s_fieldAddr'; rfl; exact fd_28_3; exact qZ)); all_goals (first | (apply ol_gskip; rfl; rfl; exact qA; rfl) | (apply ol_gval; rfl; rfl; rfl; exact qA; apply stp_pur; apply s_load1; rfl; rfl; exact qP)); all_goals (first | (apply ol_gskip; rfl; rfl; exact qA; rfl) | (apply ol_gval; rfl; rfl; rfl; exact qA; apply stp_pur; apply s_fieldAddr'; rfl; exact fd_25_0; exact qZ)); all_goals (first | (apply ol_gskip; rfl; rfl; exact qA; rfl) | (apply ol_gval; rfl; rfl; rfl; exact qA; apply stp_pur; apply s_load1; rfl; rfl; exact qP)); all_goals (first | (apply ol_gskip; rfl; rfl; exact qA; rfl) | (apply ol_gval; rfl; rfl; rfl; exact qA; apply stp_cmp; apply s_eql; rfl; rfl; all_goals (intro hc29; try (exfalso; (first | exact hc29 rfl | omega))))); all_goals (apply ol_val; rfl; apply stp_pur; first | (apply s_pick_t; rfl; exact qA; rfl) | (apply s_pick_f; rfl; exact qA; rfl)); all_goals (apply ol_nil))
      | (refine cw_region_id 5 ?_; (apply ol_fa; rfl; rfl; exact fd_25_2; exact qZ); (apply ol_ld; rfl; rfl; rfl; exact qP); (apply ol_val; rfl; apply stp_cmp; apply s_eql; rfl; rfl; all_goals (intro hc33; try (exfalso; (first | exact hc33 rfl | omega)))); all_goals (apply ol_nil))
      | (refine cw_region_id 6 ?_; (apply ol_mv; rfl; rfl); (apply ol_ldN; rfl; rfl; rfl; exact sz_28; exact qQ); (apply ol_val; rfl; apply s_callM (xs := [stB sb ro ph bk bn (.slice ta' tr.length tc') (.slice (base rv Av) vo.length cv) none 0 0, ⟨none, [], 28⟩, ⟨rv, flat (eK .i64) vo ++ spv, 3⟩]); rfl; exact gf_34; (focus ((repeat (first | exact Pk.nil | (apply Pk.cons; (repeat (first | exact Spl.here | apply Spl.there))))); done)); (intro w' M2 hw' hrd; exact coord_spec (tr := tr) hrd.lw hrd.ok hrd.sep hrd.nd (fun h => by rw [SO.emp so h]; rfl) hva.2.1 hva.2.2.2.2.1 (fun h => hvo.2.1 hb h) (hm.mono (hl18.trans hrd.le))); (intro v F36 ys M36 h hl36 hL36 hF36; unfold LM.val at h; dsimp only at h; rw [hp] at h; obtain ⟨ms, rr', co', spo', spv', hms, hval, rfl, so'⟩ := h)); (apply ol_nil))
      | (refine cw_draw (id := 8) 11 (.mv 0 (.mv 1 (.mv 2 (.mv 3 (.mv 4 (.mv 5 (.mv 6 (.mv 7 (.fx 8 (.mv 9 (.mv 10 (PT.nil)))))))))))) mixed (by kernel_rfl) ?_; (apply od_mv; rfl; rfl; apply s_move; rfl); (apply od_mv; rfl; rfl; apply s_nilCheck; rfl); (apply od_mv; rfl; rfl; apply s_fieldAddr'; rfl; exact fd_70_0; exact qZ); (apply od_mv; rfl; rfl; apply s_loadN; rfl; rfl; exact sz_25; exact qQ); (apply od_mv; rfl; rfl; apply s_move; rfl); (apply od_mv; rfl; rfl; apply s_nilCheck; rfl); (apply od_mv; rfl; rfl; apply s_fieldAddr'; rfl; exact fd_70_1; exact qZ); (apply od_mv; rfl; rfl; apply s_load1; rfl; rfl; exact qP); (apply od_fx; (first | exact Wk.refl _ _ | exact qW); (apply fx_eff; rfl; apply s_storeN; rfl; rfl; exact sz_25; rfl; rfl; exact qN; exact qN)); (apply od_mv; rfl; rfl; apply s_assign; rfl); (apply od_mv; rfl; rfl; apply s_assign; rfl); (apply od_nil; (first | exact Wk.refl _ _ | exact qW)); (apply ol_nil))
      | (refine cw_drawW (id := 8) (own0 := [stB sb p.1.ro p.1.ph p.1.bk p.1.bn (.slice ta' tr.length tc') (.slice (base rv Av) p.1.vo.length cv) rr' ms.length co']) 11 (.mv 0 (.mv 1 (.mv 2 (.mv 3 (.mv 4 (.mv 5 (.mv 6 (.mv 7 (.fx 8 (.mv 9 (.mv 10 (PT.nil)))))))))))) mixed (by kernel_rfl) (by (first | exact Wk.refl _ _ | exact qW)) ?_; (apply od_mv; rfl; rfl; apply s_move; rfl); (apply od_mv; rfl; rfl; apply s_nilCheck; rfl); (apply od_mv; rfl; rfl; apply s_fieldAddr'; rfl; exact fd_70_0; exact qZ); (apply od_mv; rfl; rfl; apply s_loadN; rfl; rfl; exact sz_25; exact qQ); (apply od_mv; rfl; rfl; apply s_move; rfl); (apply od_mv; rfl; rfl; apply s_nilCheck; rfl); (apply od_mv; rfl; rfl; apply s_fieldAddr'; rfl; exact fd_70_1; exact qZ); (apply od_mv; rfl; rfl; apply s_load1; rfl; rfl; exact qP); (apply od_fx; (first | exact Wk.refl _ _ | exact qW); (apply fx_eff; rfl; apply s_storeN; rfl; rfl; exact sz_25; rfl; rfl; exact qN; exact qN)); (apply od_mv; rfl; rfl; apply s_assign; rfl); (apply od_mv; rfl; rfl; apply s_assign; rfl); (apply od_nil; (first | exact Wk.refl _ _ | exact qW)); (apply ol_nil))
      | (apply cw_cond_true; rfl; exact qA)
      | (apply cw_cond_false; rfl; exact qA)
      | apply cw_skip
      | apply cw_ret
      | apply cw_block
      | apply cw_exit
    all_goals (refine endsW [] [⟨rr', flat LM.enc ms ++ spo', 28⟩, ⟨rv, flat (eK .i64) p.1.vo ++ spv', 3⟩] (View.join F18 F36) (RVal.cellN rfl rfl rfl (RdN.own (by (repeat (first | exact Has.here | apply Has.there))) (by focus ((repeat (first | rfl | constructor)); done))) (RVal.tmp rfl (RVal.tmp rfl RVal.nil))) (by exact qK) (View.join_le (hL18.trans hl36) hL36) (View.freshM_join hF18 hF36) (fun F hF hz => ?_); exact ⟨_, _, rfl, SetR.mk2 htr (hst.mono ((View.join_l _ _).trans hF)) (SlA.inV (eK_length .i64) (hz _ (List.Mem.tail _ (List.Mem.head _))) (fun h => List.length_eq_zero_iff.1 (by rw [hplen, SO.emp so h]; rfl))) hl1 (by rw [hplen]; exact hl2), MsgsR.own (A := none) (hz _ (List.Mem.head _)) (fun h => SO.emp so' h) (fun m hm => (hms m hm).mono ((View.join_r (hL18.trans hl36) hL36).trans hF)) hval (by rw [← hval, List.length_map] at hpml; omega), rfl⟩)
  · rw [if_neg hb]
    obtain ⟨p, hp⟩ : ∃ p, partP ⟨ro, ph, bk, bn, tr, vo⟩ ⟨fr, tt, ki, nu, bo⟩ = p := ⟨_, rfl⟩
    have htr : p.1.tr = tr := by rw [← hp]; exact partP_tr _ _
    have hplen : p.1.vo.length = vo.length := by rw [← hp, partP_vo]
    have hpml : p.2.length ≤ 1 := by rw [← hp]; exact partP_ml _ _
    rw [hp]
    repeat' first
      | apply cw_seq
      | (refine cw_region_id 0 ?_; (apply ol_val; rfl; first | (apply s_boxN; rfl; intro bk2) | (apply s_box1; rfl; rfl; intro bk2)); (apply ol_val; rfl; first | (apply s_boxN; rfl; intro bk3) | (apply s_box1; rfl; rfl; intro bk3)); (apply ol_val; rfl; apply s_alloc; exact zb_25; exact qN; intro bk4); (apply ol_as; rfl; rfl); (apply ol_as; rfl; rfl); (apply ol_nil))
      | (refine cw_region_id 1 ?_; (apply ol_ldN; rfl; rfl; rfl; exact sz_25; exact qQ); (apply ol_val; rfl; apply s_callv; rfl; exact gf_24; (intro w' hw'; exact kv w' hw'.le)); (apply ol_val; rfl; apply stp_pur; first | (apply s_not_t; rfl; exact qA) | (apply s_not_f; rfl; exact qA) | (apply s_not; rfl)); (apply ol_mv; rfl; rfl); (first | (apply ol_gskip; rfl; rfl; exact qA; rfl) | (apply ol_gval; rfl; rfl; rfl; exact qA; apply stp_pur; apply s_loadN; rfl; rfl; exact sz_28; exact qQ)); (first | (apply ol_gskip; rfl; rfl; exact qA; rfl) | (apply ol_gval; rfl; rfl; rfl; exact qA; apply s_callv; rfl; exact gf_32; (intro w' hw'; exact km w'))); (first | (apply ol_gskip; rfl; rfl; exact qA; rfl) | (apply ol_gval; rfl; rfl; rfl; exact qA; apply stp_pur; first | (apply s_not_t; rfl; exact qA) | (apply s_not_f; rfl; exact qA) | (apply s_not; rfl))); (apply ol_val; rfl; apply stp_pur; first | (apply s_pick_t; rfl; exact qA; rfl) | (apply s_pick_f; rfl; exact qA; rfl)); (apply ol_nil))
      | (refine cw_region_id 3 ?_; (apply ol_ldN; rfl; rfl; rfl; exact sz_25; exact qQ); (apply ol_val; rfl; apply s_callM (xs := []); rfl; exact gf_33; (focus ((repeat (first | exact Pk.nil | (apply Pk.cons; (repeat (first | exact Spl.here | apply Spl.there))))); done)); (intro w' M2 hw' hrd; exact ho w' hw'.le); (intro v F18 ys M18 h hl18 hL18 hF18; obtain ⟨sb, ta', tb', to', tc', rv, Av, cv, spv, hst, rfl, rfl, so⟩ := h)); (apply ol_as; rfl; rfl); (apply ol_nil))
      | (refine cw_region_id 4 ?_; (apply ol_fa; rfl; rfl; exact fd_28_1; exact qZ); (apply ol_ld; rfl; rfl; rfl; exact qP); (apply ol_fa; rfl; rfl; exact fd_25_2; exact qZ); (apply ol_ld; rfl; rfl; rfl; exact qP); (apply ol_val; rfl; apply stp_cmp; apply s_eql; rfl; rfl; all_goals (intro hc23; try (exfalso; (first | exact hc23 rfl | omega)))); all_goals (apply ol_mv; rfl; rfl); all_goals (first | (apply ol_gskip; rfl; rfl; exact qA; rfl) | (apply ol_gval; rfl; rfl; rfl; exact qA; apply stp_pur; apply s_fieldAddr'; rfl; exact fd_28_3; exact qZ)); all_goals (first | (apply ol_gskip; rfl; rfl; exact qA; rfl) | (apply ol_gval; rfl; rfl; rfl; exact qA; apply stp_pur; apply s_load1; rfl; rfl; exact qP)); all_goals (first | (apply ol_gskip; rfl; rfl; exact qA; rfl) | (apply ol_gval; rfl; rfl; rfl; exact qA; apply stp_pur; apply s_fieldAddr'; rfl; exact fd_25_0; exact qZ)); all_goals (first | (apply ol_gskip; rfl; rfl; exact qA; rfl) | (apply ol_gval; rfl; rfl; rfl; exact qA; apply stp_pur; apply s_load1; rfl; rfl; exact qP)); all_goals (first | (apply ol_gskip; rfl; rfl; exact qA; rfl) | (apply ol_gval; rfl; rfl; rfl; exact qA; apply stp_cmp; apply s_eql; rfl; rfl; all_goals (intro hc29; try (exfalso; (first | exact hc29 rfl | omega))))); all_goals (apply ol_val; rfl; apply stp_pur; first | (apply s_pick_t; rfl; exact qA; rfl) | (apply s_pick_f; rfl; exact qA; rfl)); all_goals (apply ol_nil))
      | (refine cw_region_id 5 ?_; (apply ol_fa; rfl; rfl; exact fd_25_2; exact qZ); (apply ol_ld; rfl; rfl; rfl; exact qP); (apply ol_val; rfl; apply stp_cmp; apply s_eql; rfl; rfl; all_goals (intro hc33; try (exfalso; (first | exact hc33 rfl | omega)))); all_goals (apply ol_nil))
      | (refine cw_region_id 7 ?_; (apply ol_mv; rfl; rfl); (apply ol_ldN; rfl; rfl; rfl; exact sz_28; exact qQ); (apply ol_val; rfl; apply s_callM (xs := [stB sb ro ph bk bn (.slice ta' tr.length tc') (.slice (base rv Av) vo.length cv) none 0 0, ⟨none, [], 28⟩, ⟨rv, flat (eK .i64) vo ++ spv, 3⟩]); rfl; exact gf_35; (focus ((repeat (first | exact Pk.nil | (apply Pk.cons; (repeat (first | exact Spl.here | apply Spl.there))))); done)); (intro w' M2 hw' hrd; exact part_spec hrd.lw hrd.ok hrd.sep hrd.nd (hst.mono (hL18.trans hrd.le)) htl (hm.mono (hl18.trans hrd.le))); (intro v F39 ys M39 h hl39 hL39 hF39; unfold LM.val at h; dsimp only at h; rw [hp] at h; obtain ⟨ms, rr', co', spo', spv', hms, hval, rfl, so'⟩ := h)); (apply ol_nil))
      | (refine cw_draw (id := 8) 11 (.mv 0 (.mv 1 (.mv 2 (.mv 3 (.mv 4 (.mv 5 (.mv 6 (.mv 7 (.fx 8 (.mv 9 (.mv 10 (PT.nil)))))))))))) mixed (by kernel_rfl) ?_; (apply od_mv; rfl; rfl; apply s_move; rfl); (apply od_mv; rfl; rfl; apply s_nilCheck; rfl); (apply od_mv; rfl; rfl; apply s_fieldAddr'; rfl; exact fd_70_0; exact qZ); (apply od_mv; rfl; rfl; apply s_loadN; rfl; rfl; exact sz_25; exact qQ); (apply od_mv; rfl; rfl; apply s_move; rfl); (apply od_mv; rfl; rfl; apply s_nilCheck; rfl); (apply od_mv; rfl; rfl; apply s_fieldAddr'; rfl; exact fd_70_1; exact qZ); (apply od_mv; rfl; rfl; apply s_load1; rfl; rfl; exact qP); (apply od_fx; (first | exact Wk.refl _ _ | exact qW); (apply fx_eff; rfl; apply s_storeN; rfl; rfl; exact sz_25; rfl; rfl; exact qN; exact qN)); (apply od_mv; rfl; rfl; apply s_assign; rfl); (apply od_mv; rfl; rfl; apply s_assign; rfl); (apply od_nil; (first | exact Wk.refl _ _ | exact qW)); (apply ol_nil))
      | (refine cw_drawW (id := 8) (own0 := [stB sb p.1.ro p.1.ph p.1.bk p.1.bn (.slice ta' tr.length tc') (.slice (base rv Av) p.1.vo.length cv) rr' ms.length co']) 11 (.mv 0 (.mv 1 (.mv 2 (.mv 3 (.mv 4 (.mv 5 (.mv 6 (.mv 7 (.fx 8 (.mv 9 (.mv 10 (PT.nil)))))))))))) mixed (by kernel_rfl) (by (first | exact Wk.refl _ _ | exact qW)) ?_; (apply od_mv; rfl; rfl; apply s_move; rfl); (apply od_mv; rfl; rfl; apply s_nilCheck; rfl); (apply od_mv; rfl; rfl; apply s_fieldAddr'; rfl; exact fd_70_0; exact qZ); (apply od_mv; rfl; rfl; apply s_loadN; rfl; rfl; exact sz_25; exact qQ); (apply od_mv; rfl; rfl; apply s_move; rfl); (apply od_mv; rfl; rfl; apply s_nilCheck; rfl); (apply od_mv; rfl; rfl; apply s_fieldAddr'; rfl; exact fd_70_1; exact qZ); (apply od_mv; rfl; rfl; apply s_load1; rfl; rfl; exact qP); (apply od_fx; (first | exact Wk.refl _ _ | exact qW); (apply fx_eff; rfl; apply s_storeN; rfl; rfl; exact sz_25; rfl; rfl; exact qN; exact qN)); (apply od_mv; rfl; rfl; apply s_assign; rfl); (apply od_mv; rfl; rfl; apply s_assign; rfl); (apply od_nil; (first | exact Wk.refl _ _ | exact qW)); (apply ol_nil))
      | (apply cw_cond_true; rfl; exact qA)
      | (apply cw_cond_false; rfl; exact qA)
      | apply cw_skip
      | apply cw_ret
      | apply cw_block
      | apply cw_exit
    all_goals (refine endsW [] [⟨rr', flat LM.enc ms ++ spo', 28⟩, ⟨rv, flat (eK .i64) p.1.vo ++ spv', 3⟩] (View.join F18 F39) (RVal.cellN rfl rfl rfl (RdN.own (by (repeat (first | exact Has.here | apply Has.there))) (by focus ((repeat (first | rfl | constructor)); done))) (RVal.tmp rfl (RVal.tmp rfl RVal.nil))) (by exact qK) (View.join_le (hL18.trans hl39) hL39) (View.freshM_join hF18 hF39) (fun F hF hz => ?_); exact ⟨_, _, rfl, SetR.mk2 htr (hst.mono ((View.join_l _ _).trans hF)) (SlA.inV (eK_length .i64) (hz _ (List.Mem.tail _ (List.Mem.head _))) (fun h => List.length_eq_zero_iff.1 (by rw [hplen, SO.emp so h]; rfl))) hl1 (by rw [hplen]; exact hl2), MsgsR.own (A := none) (hz _ (List.Mem.head _)) (fun h => SO.emp so' h) (fun m hm => (hms m hm).mono ((View.join_r (hL18.trans hl39) hL39).trans hF)) hval (by rw [← hval, List.length_map] at hpml; omega), rfl⟩)
end Go.Proofs.Ytagmoecojmlogaa
namespace Go.Proofs.Ytagmoecojmlogaa
set_option maxRecDepth 20000
set_option linter.unusedSimpArgs false
set_option linter.unusedVariables false
open Go Go.Fw
/-- What the reference's functions hand back: the settlement (its transfers are the argument's) and the messages. -/
def RcR (p : SV × List MV) (ta : Option Addr) (tn tc : Nat) (v : Value) (F : View) (ys : List OB) : Prop :=
  ∃ va vb vo vc l, v = .tuple #[.agg [.int .i64 p.1.ro, .int .i64 p.1.ph, .int .i64 p.1.bk, .int .i64 p.1.bn, .slice ta tn tc, .slice va p.1.vo.length vc].toArray, l] ∧ SlA F (eK .i64) 1 va p.1.vo vb vo ∧ MsgsR p.2 F l ∧ ys = []
end Go.Proofs.Ytagmoecojmlogaa
namespace Go.Proofs.Ytagmoecojmlogaa
set_option maxRecDepth 20000
set_option linter.unusedSimpArgs false
set_option linter.unusedVariables false
open Go Go.Fw
theorem MsgsR.mono {ms : List MV} {F G : View} {v : Value} (h : MsgsR ms F v) (hF : View.le F G) : MsgsR ms G v := by
  obtain ⟨xs, a, b, o, c, h1, h2, h3, h4, h5⟩ := h
  exact ⟨xs, a, b, o, c, h1, h2.mono hF, fun m hm => (h3 m hm).mono hF, h4, h5⟩
def RpR (p : SV × List MV) (ta : Option Addr) (tn tc : Nat) (va : Option Addr) (vc : Nat) (v : Value) (F : View) (ys : List OB) : Prop :=
  ∃ l, v = .tuple #[.agg [.int .i64 p.1.ro, .int .i64 p.1.ph, .int .i64 p.1.bk, .int .i64 p.1.bn, .slice ta tn tc, .slice va p.1.vo.length vc].toArray, l] ∧ MsgsR p.2 F l ∧ ys = []
end Go.Proofs.Ytagmoecojmlogaa
namespace Go.Proofs.Ytagmoecojmlogaa
set_option maxRecDepth 20000
set_option linter.unusedSimpArgs false
set_option linter.unusedVariables false
open Go Go.Fw
theorem SetR.out {s : SV} {F : View} {u : Value} (h : SetR s F u) : ∃ ta tb to tc va vb vo vc, u = .agg [.int .i64 s.ro, .int .i64 s.ph, .int .i64 s.bk, .int .i64 s.bn, .slice ta s.tr.length tc, .slice va s.vo.length vc].toArray ∧ SlA F C3.enc 3 ta s.tr tb to ∧ SlA F (eK .i64) 1 va s.vo vb vo ∧ s.tr.length ≤ 100000 ∧ s.vo.length ≤ 100000 := by
  obtain ⟨⟨ro, ph, bk, bn, ⟨tr, ta, tb, to, tc⟩, ⟨vo, va, vb, vo', vc⟩⟩, rfl, rfl, h⟩ := h
  exact ⟨ta, tb, to, tc, va, vb, vo', vc, rfl, h.t, h.v, h.lt, h.lv⟩
theorem MsgsR.one {m : MV} {F : View} {v : Value} (h : MsgsR [m] F v) : ∃ (x : LM) (a : Option Addr) (b o c : Nat), v = .slice a 1 c ∧ SlA F LM.enc 5 a [x] b o ∧ LmV F x ∧ x.val = m := by
  obtain ⟨xs, a, b, o, c, rfl, h2, h3, h4, h5⟩ := h
  match xs, h4 with
  | [x], h4 =>
    injection h4 with h4 _
    exact ⟨x, a, b, o, c, rfl, h2, h3 x (List.mem_singleton.2 rfl), h4⟩
def exl : List C3 := [⟨0, 1, 5⟩]
theorem exN0 : newP 1 0 2 exl = (⟨1, 0, 0, 2, exl, []⟩, 0) := by decide +kernel
theorem exN1 : newP 1 1 2 exl = (⟨1, 0, 1, 2, exl, []⟩, 0) := by decide +kernel
theorem exB0 : beginP ⟨1, 0, 0, 2, exl, []⟩ = (⟨1, 1, 0, 2, exl, [1, 0]⟩, [⟨0, 1, 1, 1, bodyP exl⟩], 0) := by decide +kernel
theorem exR0 : recvP ⟨1, 0, 1, 2, exl, []⟩ ⟨0, 1, 1, 1, bodyP exl⟩ = (⟨1, 1, 1, 2, exl, []⟩, [⟨1, 0, 2, 1, [1]⟩], 0) := by decide +kernel
theorem exR1 : recvP ⟨1, 1, 0, 2, exl, [1, 0]⟩ ⟨1, 0, 2, 1, [1]⟩ = (⟨1, 2, 0, 2, exl, [1, 0]⟩, [⟨0, 1, 3, 1, [1]⟩], 0) := by decide +kernel
theorem exR2 : recvP ⟨1, 1, 1, 2, exl, []⟩ ⟨0, 1, 3, 1, [1]⟩ = (⟨1, 4, 1, 2, exl, []⟩, [⟨1, 0, 4, 1, []⟩], 0) := by decide +kernel
theorem exR3 : recvP ⟨1, 2, 0, 2, exl, [1, 0]⟩ ⟨1, 0, 4, 1, []⟩ = (⟨1, 4, 0, 2, exl, [1, 1]⟩, [], 0) := by decide +kernel
theorem exM0 : mnP ⟨1, 4, 0, 2, exl, [1, 1]⟩ = (-5, 0) := by decide +kernel
theorem exM1 : mnP ⟨1, 4, 1, 2, exl, []⟩ = (5, 0) := by decide +kernel
def aS (i : Nat) : SV := if i = 0 then ⟨1, 1, 0, 2, exl, [1, 0]⟩ else if i ≤ 2 then ⟨1, 2, 0, 2, exl, [1, 0]⟩ else ⟨1, 4, 0, 2, exl, [1, 1]⟩
def bS (i : Nat) : SV := if i ≤ 1 then ⟨1, 1, 1, 2, exl, []⟩ else ⟨1, 4, 1, 2, exl, []⟩
def mS (i : Nat) : List MV := if i = 0 then [⟨1, 0, 2, 1, [1]⟩] else if i = 1 then [⟨0, 1, 3, 1, [1]⟩] else if i = 2 then [⟨1, 0, 4, 1, []⟩] else []
structure ASt where
  i : Nat
  a : LS
  b : LS
  v : Value
  M : View
theorem LS.of {x : LS} {s : SV} {M : View} (h : x.val = s) (hx : LsV M x) : ∃ ta tb to tc va vb vo vc, x = ⟨s.ro, s.ph, s.bk, s.bn, ⟨s.tr, ta, tb, to, tc⟩, ⟨s.vo, va, vb, vo, vc⟩⟩ := by
  obtain ⟨ro, ph, bk, bn, ⟨tr, ta, tb, to, tc⟩, ⟨vo, va, vb, vo', vc⟩⟩ := x
  subst h
  exact ⟨ta, tb, to, tc, va, vb, vo', vc, rfl⟩
end Go.Proofs.Ytagmoecojmlogaa
namespace Go.Proofs.Ytagmoecojmlogaa
set_option maxRecDepth 20000
set_option linter.unusedSimpArgs false
set_option linter.unusedVariables false
open Go Go.Fw
attribute [local irreducible] CW OL OD FX Stp FnC FnV FnA FnM Ret svB noneV hz bodyP strOf mvB bitM coordP partP recvP beginP tickP newP mnP exl
set_option maxHeartbeats 1600000
theorem awake_spec (w : World) : FnC Try.prog 8 [] w (fun v _ => v = .bool true) := by
  have hx1 : exl.length = 1 := by unfold exl; rfl
  have hfx : flat C3.enc exl = [.int .i64 0, .int .i64 1, .int .i64 5] := by unfold exl; rfl
  refine enterF (M := View.of w) Try.func8 rfl rfl rfl rfl (View.le.refl _) ?_
  repeat' first
    | apply cw_seq
    | (refine cw_region_id 0 ?_; (apply ol_as; rfl; rfl); (apply ol_nil))
    | (refine cw_region_id 1 ?_; (apply ol_val; rfl; apply stp_pur; apply s_buildS; rfl; exact fs_61; exact zb_61; exact qR); (apply ol_val; rfl; apply s_buildSl; rfl; exact el_22; exact sz_61; exact zb_61; exact qN; rfl; rfl; (exact Nat.le_of_ble_eq_true rfl); exact qN; (focus ((repeat (first | exact Fil.nil | (apply Fil.one; rfl; rfl; (repeat (first | exact SetAt.zero | apply SetAt.succ))) | (apply Fil.agg; rfl; rfl; (repeat (first | exact SetN.nil | (apply SetN.cons; (repeat (first | exact SetAt.zero | apply SetAt.succ))))); (exact Nat.le_of_ble_eq_true rfl)))); done)); intro bk14); (apply ol_as; rfl; rfl); (apply ol_nil))
    | (refine cw_region_id 2 ?_; (apply ol_mv; rfl; rfl); (apply ol_val; rfl; apply s_callM (xs := []); rfl; exact gf_18; (focus ((repeat (first | exact Pk.nil | (apply Pk.cons; (repeat (first | exact Spl.here | apply Spl.there))))); done)); (intro w' M2 hw' hrd; (have hrow : OB.inV ⟨some bk14, flat C3.enc exl ++ [], 61⟩ M2 := by (rw [hfx]; exact hrd.row (by (repeat (first | exact Has.here | apply Has.there))))); (first | exact new_spec hrd.lw 1 0 2 hx1 (by omega) (SlA.inV (A := none) (r := some bk14) C3.enc_length hrow (fun e => by cases e)) | exact new_spec hrd.lw 1 1 2 hx1 (by omega) (SlA.inV (A := none) (r := some bk14) C3.enc_length hrow (fun e => by cases e)))); (intro v F17 ys M17 h hl17 hL17 hF17; (first | rw [exN0] at h | rw [exN1] at h); obtain ⟨u, rfl, hset, rfl⟩ := h; have ho := SetR.out hset; dsimp only at ho; clear hset; obtain ⟨ta17, tb17, to17, tc17, va17, vb17, vo17, vc17, rfl, st17, sv17, lt17, lv17⟩ := ho)); all_goals (apply ol_mv; rfl; rfl); all_goals (apply ol_ex; rfl; rfl; rfl); all_goals (apply ol_ex; rfl; rfl; rfl); all_goals (apply ol_val; rfl; apply s_alloc; exact zb_25; exact qN; intro bk2); all_goals (apply ol_eff; apply s_storeN; rfl; rfl; exact sz_25; rfl; rfl; exact qN; exact qN); all_goals (apply ol_as; rfl; rfl); all_goals (apply ol_nil))
    | (refine cw_region_id 3 ?_; (apply ol_mv; rfl; rfl); (apply ol_val; rfl; apply s_callM (xs := []); rfl; exact gf_18; (focus ((repeat (first | exact Pk.nil | (apply Pk.cons; (repeat (first | exact Spl.here | apply Spl.there))))); done)); (intro w' M2 hw' hrd; (have hrow : OB.inV ⟨some bk14, flat C3.enc exl ++ [], 61⟩ M2 := by (rw [hfx]; exact hrd.row (by (repeat (first | exact Has.here | apply Has.there))))); (first | exact new_spec hrd.lw 1 0 2 hx1 (by omega) (SlA.inV (A := none) (r := some bk14) C3.enc_length hrow (fun e => by cases e)) | exact new_spec hrd.lw 1 1 2 hx1 (by omega) (SlA.inV (A := none) (r := some bk14) C3.enc_length hrow (fun e => by cases e)))); (intro v F22 ys M22 h hl22 hL22 hF22; (first | rw [exN0] at h | rw [exN1] at h); obtain ⟨u, rfl, hset, rfl⟩ := h; have ho := SetR.out hset; dsimp only at ho; clear hset; obtain ⟨ta22, tb22, to22, tc22, va22, vb22, vo22, vc22, rfl, st22, sv22, lt22, lv22⟩ := ho)); all_goals (apply ol_mv; rfl; rfl); all_goals (apply ol_ex; rfl; rfl; rfl); all_goals (apply ol_ex; rfl; rfl; rfl); all_goals (apply ol_val; rfl; apply s_alloc; exact zb_25; exact qN; intro bk4); all_goals (apply ol_eff; apply s_storeN; rfl; rfl; exact sz_25; rfl; rfl; exact qN; exact qN); all_goals (apply ol_as; rfl; rfl); all_goals (apply ol_nil))
    | (refine cw_region_id 4 ?_; (apply ol_ldN; rfl; rfl; rfl; exact sz_25; (first | exact qQ | (apply RdN.view; exact hci))); (apply ol_val; rfl; apply s_callM (xs := []); rfl; exact gf_19; (focus ((repeat (first | exact Pk.nil | (apply Pk.cons; (repeat (first | exact Spl.here | apply Spl.there))))); done)); (intro w' M2 hw' hrd; exact begin_spec hw'.le (s := ⟨1, 0, 0, 2, ⟨exl, ta17, tb17, to17, tc17⟩, ⟨[], va17, vb17, vo17, vc17⟩⟩) ⟨st17.mono (hL17.trans hl22), sv17.mono (hL17.trans hl22), lt17, lv17⟩); (intro v F27 ys M27 h hl27 hL27 hF27; unfold LS.val at h; dsimp only at h; rw [exB0] at h; obtain ⟨u, l, rfl, hset, hm, rfl⟩ := h; have ho := SetR.out hset; dsimp only at ho hm; clear hset; obtain ⟨ta27, tb27, to27, tc27, va27, vb27, vo27, vc27, rfl, st27, sv27, lt27, lv27⟩ := ho; obtain ⟨x, am, bm, om, cm, rfl, sm, hx, hxv⟩ := MsgsR.one hm; have hci := (sm.mono hL27).cells 0 (by rw [List.length_singleton]; omega); rw [List.getElem_cons_zero] at hci)); (apply ol_mv; rfl; rfl); (apply ol_ex; rfl; rfl; rfl); (apply ol_ex; rfl; rfl; rfl); (apply ol_ex; rfl; rfl; rfl); (apply ol_eff; apply s_storeN; rfl; rfl; exact sz_25; rfl; rfl; exact qN; exact qN); (apply ol_as; rfl; rfl); (apply ol_as; rfl; rfl); (apply ol_nil))
    | (refine cw_region_id 5 ?_; (apply ol_mv; rfl; rfl); (apply ol_val; rfl; apply stp_cmp; apply s_neq; rfl; rfl; all_goals (intro hc32; try (exfalso; (first | exact hc32 rfl | omega)))); all_goals (apply ol_mv; rfl; rfl); all_goals (first | (apply ol_gskip; rfl; rfl; exact qA; rfl) | (apply ol_gval; rfl; rfl; rfl; exact qA; apply stp_pur; apply s_move; rfl)); all_goals (first | (apply ol_gskip; rfl; rfl; exact qA; rfl) | (apply ol_gval; rfl; rfl; rfl; exact qA; apply stp_cmp; apply s_neq; rfl; rfl; all_goals (intro hc35; try (exfalso; (first | exact hc35 rfl | omega))))); all_goals (apply ol_val; rfl; apply stp_pur; first | (apply s_pick_t; rfl; exact qA; rfl) | (apply s_pick_f; rfl; exact qA; rfl)); all_goals (apply ol_mv; rfl; rfl); all_goals (first | (apply ol_gskip; rfl; rfl; exact qA; rfl) | (apply ol_gval; rfl; rfl; rfl; exact qA; apply stp_pur; apply s_move; rfl)); all_goals (first | (apply ol_gskip; rfl; rfl; exact qA; rfl) | (apply ol_gval; rfl; rfl; rfl; exact qA; apply stp_cmp; apply s_neq; rfl; rfl; all_goals (intro hc39; try (exfalso; (first | exact hc39 rfl | omega))))); all_goals (apply ol_val; rfl; apply stp_pur; first | (apply s_pick_t; rfl; exact qA; rfl) | (apply s_pick_f; rfl; exact qA; rfl)); all_goals (apply ol_mv; rfl; rfl); all_goals (first | (apply ol_gskip; rfl; rfl; exact qA; rfl) | (apply ol_gval; rfl; rfl; rfl; exact qA; apply stp_pur; apply s_move; rfl)); all_goals (first | (apply ol_gskip; rfl; rfl; exact qA; rfl) | (apply ol_gval; rfl; rfl; rfl; exact qA; apply stp_pur; apply s_len; rfl; exact el_31)); all_goals (first | (apply ol_gskip; rfl; rfl; exact qA; rfl) | (apply ol_gval; rfl; rfl; rfl; exact qA; apply stp_cmp; apply s_neq; rfl; rfl; all_goals (intro hc44; try (exfalso; (first | exact hc44 rfl | omega))))); all_goals (apply ol_val; rfl; apply stp_pur; first | (apply s_pick_t; rfl; exact qA; rfl) | (apply s_pick_f; rfl; exact qA; rfl)); all_goals (apply ol_nil))
    | (refine cw_drawW (id := 7) (own0 := []) 11 (.mv 1 (.mv 2 (.mv 3 (.fx 0 (.fx 4 (.mv 5 (.mv 6 (.mv 7 (.mv 8 (.fx 9 (.mv 10 (PT.nil)))))))))))) mixed (by kernel_rfl) (by (first | exact Wk.refl _ _ | exact qW)) ?_; (apply od_mv; rfl; rfl; apply s_move; rfl); (apply od_mv; rfl; rfl; first | (apply s_indexK; rfl; rfl; exact el_31; exact sz_28; (first | rfl | exact sm.at_ (by rw [List.length_singleton]; omega)); omega) | (apply s_indexO; rfl; rfl; exact el_31; exact sz_28; (first | rfl | exact sm.at_ (by rw [List.length_singleton]; omega)); omega)); (apply od_mv; rfl; rfl; apply s_loadN; rfl; rfl; exact sz_28; (first | exact qQ | (apply RdN.view; exact hci))); (apply od_fx; (first | exact Wk.refl _ _ | exact qW); (apply fx_val; rfl; rfl; apply stp_pur; apply s_loadN; rfl; rfl; exact sz_25; (first | exact qQ | (apply RdN.view; exact hci)))); (apply od_fx; (first | exact Wk.refl _ _ | exact qW); (apply fx_val; rfl; rfl; apply s_callM (xs := []); rfl; exact gf_10; (focus ((repeat (first | exact Pk.nil | (apply Pk.cons; (repeat (first | exact Spl.here | apply Spl.there))))); done)); (intro w' M2 hw' hrd; exact receive_spec hw'.le (s := ⟨1, 0, 1, 2, ⟨exl, ta22, tb22, to22, tc22⟩, ⟨[], va22, vb22, vo22, vc22⟩⟩) ⟨st22.mono (hL22.trans hl27), sv22.mono (hL22.trans hl27), lt22, lv22⟩ (hx.mono hL27)); (intro v F51 ys M51 h hl51 hL51 hF51; unfold LS.val at h; dsimp only at h; rw [hxv, exR0] at h; obtain ⟨u, l51, rfl, hset, hm51, rfl⟩ := h; have ho := SetR.out hset; dsimp only at ho hm51; clear hset; obtain ⟨ta51, tb51, to51, tc51, va51, vb51, vo51, vc51, rfl, st51, sv51, lt51, lv51⟩ := ho))); (apply od_mv; rfl; rfl; apply s_move; rfl); (apply od_mv; rfl; rfl; apply s_extract; rfl; rfl); (apply od_mv; rfl; rfl; apply s_extract; rfl; rfl); (apply od_mv; rfl; rfl; apply s_extract; rfl; rfl); (apply od_fx; (first | exact Wk.refl _ _ | exact qW); (apply fx_eff; rfl; apply s_storeN; rfl; rfl; exact sz_25; rfl; rfl; exact qN; exact qN)); (apply od_mv; rfl; rfl; apply s_assign; rfl); (apply od_nil; (first | exact Wk.refl _ _ | exact qW)); (apply ol_as; rfl; rfl); (apply ol_nil))
    | (refine cw_region_id 8 ?_; (apply ol_as; rfl; rfl); (apply ol_nil))
    | (apply cw_cond_true; rfl; exact qA)
    | (apply cw_cond_false; rfl; exact qA)
    | apply cw_skip
    | apply cw_ret
    | apply cw_block
    | apply cw_exit
  refine cw_loopK (σ := ASt) [2, 4] (by (repeat (first | exact Keep.nil | (apply Keep.cons; rfl)))) (fun s => [(6, s.v), (7, .int .i64 0), (8, .int .i64 s.i)]) (fun s => s.M) (fun s => [⟨some bk4, s.b.enc, 25⟩, ⟨some bk2, s.a.enc, 25⟩]) (fun s => s.i ≤ 3 ∧ s.a.val = aS s.i ∧ s.b.val = bS s.i ∧ LsV s.M s.a ∧ LsV s.M s.b ∧ MsgsR (mS s.i) s.M s.v) (fun s => 3 - s.i) ⟨0, ⟨1, 1, 0, 2, ⟨exl, ta27, tb27, to27, tc27⟩, ⟨[1, 0], va27, vb27, vo27, vc27⟩⟩, ⟨1, 1, 1, 2, ⟨exl, ta51, tb51, to51, tc51⟩, ⟨[], va51, vb51, vo51, vc51⟩⟩, l51, M51⟩ (by (repeat (first | exact trivial | refine And.intro rfl ?_))) (View.le.refl _) (by exact qK) ⟨(by dsimp only; omega), rfl, rfl, ⟨st27.mono (hL27.trans hl51), sv27.mono (hL27.trans hl51), lt27, lv27⟩, ⟨st51.mono hL51, sv51.mono hL51, lt51, lv51⟩, hm51.mono hL51⟩ ?_
  rintro ⟨i, a, b, v, N⟩ ⟨hi, ha, hb, hva, hvb, hmv⟩
  dsimp only at hi ha hb hva hvb hmv
  dsimp only
  obtain ⟨xa, ya, za, wa, xb, yb, zb, wb, rfl⟩ := LS.of ha hva
  obtain ⟨pa, qa, ra, sa, pb, qb, rb, sb, rfl⟩ := LS.of hb hvb
  clear ha hb
  unfold LS.enc
  dsimp only
  obtain rfl | rfl | rfl | rfl : i = 0 ∨ i = 1 ∨ i = 2 ∨ i = 3 := by omega
  · rw [show aS 0 = ⟨1, 1, 0, 2, exl, [1, 0]⟩ from rfl] at hva ⊢
    rw [show bS 0 = ⟨1, 1, 1, 2, exl, []⟩ from rfl] at hvb ⊢
    rw [show mS 0 = [⟨1, 0, 2, 1, [1]⟩] from rfl] at hmv
    dsimp only at hva hvb ⊢
    obtain ⟨x, am, bm, om, cm, rfl, sm, hx, hxv⟩ := MsgsR.one hmv
    have hci := sm.cells 0 (by rw [List.length_singleton]; omega)
    rw [List.getElem_cons_zero] at hci
    clear hmv
    repeat' first
      | apply cw_seq
      | (refine cw_region_id 9 ?_; (apply ol_mv; rfl; rfl); (apply ol_val; rfl; apply stp_cmp; apply s_lss; rfl; rfl; all_goals (intro hc56; try (exfalso; (first | exact hc56 rfl | omega)))); all_goals (apply ol_nil))
      | (refine cw_region_id 11 ?_; (apply ol_mv; rfl; rfl); (apply ol_val; rfl; apply stp_cmp; apply s_neq; rfl; rfl; all_goals (intro hc60; try (exfalso; (first | exact hc60 rfl | omega)))); all_goals (apply ol_mv; rfl; rfl); all_goals (first | (apply ol_gskip; rfl; rfl; exact qA; rfl) | (apply ol_gval; rfl; rfl; rfl; exact qA; apply stp_pur; apply s_move; rfl)); all_goals (first | (apply ol_gskip; rfl; rfl; exact qA; rfl) | (apply ol_gval; rfl; rfl; rfl; exact qA; apply stp_pur; apply s_len; rfl; exact el_31)); all_goals (first | (apply ol_gskip; rfl; rfl; exact qA; rfl) | (apply ol_gval; rfl; rfl; rfl; exact qA; apply stp_cmp; apply s_neq; rfl; rfl; all_goals (intro hc64; try (exfalso; (first | exact hc64 rfl | omega))))); all_goals (apply ol_val; rfl; apply stp_pur; first | (apply s_pick_t; rfl; exact qA; rfl) | (apply s_pick_f; rfl; exact qA; rfl)); all_goals (apply ol_nil))
      | (refine cw_region_id 13 ?_; (apply ol_mv; rfl; rfl); (apply ol_val; rfl; apply stp_cmp; apply s_eql; rfl; rfl; all_goals (intro hc67; try (exfalso; (first | exact hc67 rfl | omega)))); all_goals (apply ol_nil))
      | (refine cw_drawW (id := 15) (own0 := []) 11 (.mv 1 (.mv 2 (.mv 3 (.fx 0 (.fx 4 (.mv 5 (.mv 6 (.mv 7 (.mv 8 (.fx 9 (.mv 10 (PT.nil)))))))))))) mixed (by kernel_rfl) (by (first | exact Wk.refl _ _ | exact qW)) ?_; (apply od_mv; rfl; rfl; apply s_move; rfl); (apply od_mv; rfl; rfl; first | (apply s_indexK; rfl; rfl; exact el_31; exact sz_28; (first | rfl | exact sm.at_ (by rw [List.length_singleton]; omega)); omega) | (apply s_indexO; rfl; rfl; exact el_31; exact sz_28; (first | rfl | exact sm.at_ (by rw [List.length_singleton]; omega)); omega)); (apply od_mv; rfl; rfl; apply s_loadN; rfl; rfl; exact sz_28; (first | exact qQ | (apply RdN.view; exact hci))); (apply od_fx; (first | exact Wk.refl _ _ | exact qW); (apply fx_val; rfl; rfl; apply stp_pur; apply s_loadN; rfl; rfl; exact sz_25; (first | exact qQ | (apply RdN.view; exact hci)))); (apply od_fx; (first | exact Wk.refl _ _ | exact qW); (apply fx_val; rfl; rfl; apply s_callM (xs := []); rfl; exact gf_10; (focus ((repeat (first | exact Pk.nil | (apply Pk.cons; (repeat (first | exact Spl.here | apply Spl.there))))); done)); (intro w' M2 hw' hrd; exact receive_spec hw'.le (s := ⟨1, 1, 0, 2, ⟨exl, xa, ya, za, wa⟩, ⟨[1, 0], xb, yb, zb, wb⟩⟩) (hva.mono (View.le.refl _)) (hx.mono (View.le.refl _))); (intro v F82 ys M82 h hl82 hL82 hF82; unfold LS.val at h; dsimp only at h; rw [hxv, exR1] at h; obtain ⟨u, l82, rfl, hset, hm82, rfl⟩ := h; have ho := SetR.out hset; dsimp only at ho hm82; clear hset; obtain ⟨ta82, tb82, to82, tc82, va82, vb82, vo82, vc82, rfl, st82, sv82, lt82, lv82⟩ := ho))); (apply od_mv; rfl; rfl; apply s_move; rfl); (apply od_mv; rfl; rfl; apply s_extract; rfl; rfl); (apply od_mv; rfl; rfl; apply s_extract; rfl; rfl); (apply od_mv; rfl; rfl; apply s_extract; rfl; rfl); (apply od_fx; (first | exact Wk.refl _ _ | exact qW); (apply fx_eff; rfl; apply s_storeN; rfl; rfl; exact sz_25; rfl; rfl; exact qN; exact qN)); (apply od_mv; rfl; rfl; apply s_assign; rfl); (apply od_nil; (first | exact Wk.refl _ _ | exact qW)); (apply ol_as; rfl; rfl); (apply ol_nil))
      | (refine cw_region_id 10 ?_; (apply ol_mv; rfl; rfl); (apply ol_val; rfl; apply stp_pur; apply s_add64; rfl; rfl; omega); (apply ol_as; rfl; rfl); (apply ol_nil))
      | (apply cw_cond_true; rfl; exact qA)
      | (apply cw_cond_false; rfl; exact qA)
      | apply cw_skip
      | apply cw_ret
      | apply cw_block
      | apply cw_exit
    all_goals (exact ⟨⟨1, ⟨1, 2, 0, 2, ⟨exl, ta82, tb82, to82, tc82⟩, ⟨[1, 0], va82, vb82, vo82, vc82⟩⟩, ⟨1, 1, 1, 2, ⟨exl, pa, qa, ra, sa⟩, ⟨[], pb, qb, rb, sb⟩⟩, l82, M82⟩, ⟨by (repeat (first | exact trivial | refine And.intro rfl ?_)), View.le.refl _, by exact qK, ⟨(by dsimp only; omega), rfl, rfl, ⟨st82.mono hL82, sv82.mono hL82, lt82, lv82⟩, hvb.mono hl82, hm82.mono hL82⟩, by dsimp only; omega⟩⟩)
  · rw [show aS 1 = ⟨1, 2, 0, 2, exl, [1, 0]⟩ from rfl] at hva ⊢
    rw [show bS 1 = ⟨1, 1, 1, 2, exl, []⟩ from rfl] at hvb ⊢
    rw [show mS 1 = [⟨0, 1, 3, 1, [1]⟩] from rfl] at hmv
    dsimp only at hva hvb ⊢
    obtain ⟨x, am, bm, om, cm, rfl, sm, hx, hxv⟩ := MsgsR.one hmv
    have hci := sm.cells 0 (by rw [List.length_singleton]; omega)
    rw [List.getElem_cons_zero] at hci
    clear hmv
    repeat' first
      | apply cw_seq
      | (refine cw_region_id 9 ?_; (apply ol_mv; rfl; rfl); (apply ol_val; rfl; apply stp_cmp; apply s_lss; rfl; rfl; all_goals (intro hc56; try (exfalso; (first | exact hc56 rfl | omega)))); all_goals (apply ol_nil))
      | (refine cw_region_id 11 ?_; (apply ol_mv; rfl; rfl); (apply ol_val; rfl; apply stp_cmp; apply s_neq; rfl; rfl; all_goals (intro hc60; try (exfalso; (first | exact hc60 rfl | omega)))); all_goals (apply ol_mv; rfl; rfl); all_goals (first | (apply ol_gskip; rfl; rfl; exact qA; rfl) | (apply ol_gval; rfl; rfl; rfl; exact qA; apply stp_pur; apply s_move; rfl)); all_goals (first | (apply ol_gskip; rfl; rfl; exact qA; rfl) | (apply ol_gval; rfl; rfl; rfl; exact qA; apply stp_pur; apply s_len; rfl; exact el_31)); all_goals (first | (apply ol_gskip; rfl; rfl; exact qA; rfl) | (apply ol_gval; rfl; rfl; rfl; exact qA; apply stp_cmp; apply s_neq; rfl; rfl; all_goals (intro hc64; try (exfalso; (first | exact hc64 rfl | omega))))); all_goals (apply ol_val; rfl; apply stp_pur; first | (apply s_pick_t; rfl; exact qA; rfl) | (apply s_pick_f; rfl; exact qA; rfl)); all_goals (apply ol_nil))
      | (refine cw_region_id 13 ?_; (apply ol_mv; rfl; rfl); (apply ol_val; rfl; apply stp_cmp; apply s_eql; rfl; rfl; all_goals (intro hc67; try (exfalso; (first | exact hc67 rfl | omega)))); all_goals (apply ol_nil))
      | (refine cw_drawW (id := 14) (own0 := []) 11 (.mv 1 (.mv 2 (.mv 3 (.fx 0 (.fx 4 (.mv 5 (.mv 6 (.mv 7 (.mv 8 (.fx 9 (.mv 10 (PT.nil)))))))))))) mixed (by kernel_rfl) (by (first | exact Wk.refl _ _ | exact qW)) ?_; (apply od_mv; rfl; rfl; apply s_move; rfl); (apply od_mv; rfl; rfl; first | (apply s_indexK; rfl; rfl; exact el_31; exact sz_28; (first | rfl | exact sm.at_ (by rw [List.length_singleton]; omega)); omega) | (apply s_indexO; rfl; rfl; exact el_31; exact sz_28; (first | rfl | exact sm.at_ (by rw [List.length_singleton]; omega)); omega)); (apply od_mv; rfl; rfl; apply s_loadN; rfl; rfl; exact sz_28; (first | exact qQ | (apply RdN.view; exact hci))); (apply od_fx; (first | exact Wk.refl _ _ | exact qW); (apply fx_val; rfl; rfl; apply stp_pur; apply s_loadN; rfl; rfl; exact sz_25; (first | exact qQ | (apply RdN.view; exact hci)))); (apply od_fx; (first | exact Wk.refl _ _ | exact qW); (apply fx_val; rfl; rfl; apply s_callM (xs := []); rfl; exact gf_10; (focus ((repeat (first | exact Pk.nil | (apply Pk.cons; (repeat (first | exact Spl.here | apply Spl.there))))); done)); (intro w' M2 hw' hrd; exact receive_spec hw'.le (s := ⟨1, 1, 1, 2, ⟨exl, pa, qa, ra, sa⟩, ⟨[], pb, qb, rb, sb⟩⟩) (hvb.mono (View.le.refl _)) (hx.mono (View.le.refl _))); (intro v F73 ys M73 h hl73 hL73 hF73; unfold LS.val at h; dsimp only at h; rw [hxv, exR2] at h; obtain ⟨u, l73, rfl, hset, hm73, rfl⟩ := h; have ho := SetR.out hset; dsimp only at ho hm73; clear hset; obtain ⟨ta73, tb73, to73, tc73, va73, vb73, vo73, vc73, rfl, st73, sv73, lt73, lv73⟩ := ho))); (apply od_mv; rfl; rfl; apply s_move; rfl); (apply od_mv; rfl; rfl; apply s_extract; rfl; rfl); (apply od_mv; rfl; rfl; apply s_extract; rfl; rfl); (apply od_mv; rfl; rfl; apply s_extract; rfl; rfl); (apply od_fx; (first | exact Wk.refl _ _ | exact qW); (apply fx_eff; rfl; apply s_storeN; rfl; rfl; exact sz_25; rfl; rfl; exact qN; exact qN)); (apply od_mv; rfl; rfl; apply s_assign; rfl); (apply od_nil; (first | exact Wk.refl _ _ | exact qW)); (apply ol_as; rfl; rfl); (apply ol_nil))
      | (refine cw_region_id 10 ?_; (apply ol_mv; rfl; rfl); (apply ol_val; rfl; apply stp_pur; apply s_add64; rfl; rfl; omega); (apply ol_as; rfl; rfl); (apply ol_nil))
      | (apply cw_cond_true; rfl; exact qA)
      | (apply cw_cond_false; rfl; exact qA)
      | apply cw_skip
      | apply cw_ret
      | apply cw_block
      | apply cw_exit
    all_goals (exact ⟨⟨2, ⟨1, 2, 0, 2, ⟨exl, xa, ya, za, wa⟩, ⟨[1, 0], xb, yb, zb, wb⟩⟩, ⟨1, 4, 1, 2, ⟨exl, ta73, tb73, to73, tc73⟩, ⟨[], va73, vb73, vo73, vc73⟩⟩, l73, M73⟩, ⟨by (repeat (first | exact trivial | refine And.intro rfl ?_)), View.le.refl _, by exact qK, ⟨(by dsimp only; omega), rfl, rfl, hva.mono hl73, ⟨st73.mono hL73, sv73.mono hL73, lt73, lv73⟩, hm73.mono hL73⟩, by dsimp only; omega⟩⟩)
  · rw [show aS 2 = ⟨1, 2, 0, 2, exl, [1, 0]⟩ from rfl] at hva ⊢
    rw [show bS 2 = ⟨1, 4, 1, 2, exl, []⟩ from rfl] at hvb ⊢
    rw [show mS 2 = [⟨1, 0, 4, 1, []⟩] from rfl] at hmv
    dsimp only at hva hvb ⊢
    obtain ⟨x, am, bm, om, cm, rfl, sm, hx, hxv⟩ := MsgsR.one hmv
    have hci := sm.cells 0 (by rw [List.length_singleton]; omega)
    rw [List.getElem_cons_zero] at hci
    clear hmv
    repeat' first
      | apply cw_seq
      | (refine cw_region_id 9 ?_; (apply ol_mv; rfl; rfl); (apply ol_val; rfl; apply stp_cmp; apply s_lss; rfl; rfl; all_goals (intro hc56; try (exfalso; (first | exact hc56 rfl | omega)))); all_goals (apply ol_nil))
      | (refine cw_region_id 11 ?_; (apply ol_mv; rfl; rfl); (apply ol_val; rfl; apply stp_cmp; apply s_neq; rfl; rfl; all_goals (intro hc60; try (exfalso; (first | exact hc60 rfl | omega)))); all_goals (apply ol_mv; rfl; rfl); all_goals (first | (apply ol_gskip; rfl; rfl; exact qA; rfl) | (apply ol_gval; rfl; rfl; rfl; exact qA; apply stp_pur; apply s_move; rfl)); all_goals (first | (apply ol_gskip; rfl; rfl; exact qA; rfl) | (apply ol_gval; rfl; rfl; rfl; exact qA; apply stp_pur; apply s_len; rfl; exact el_31)); all_goals (first | (apply ol_gskip; rfl; rfl; exact qA; rfl) | (apply ol_gval; rfl; rfl; rfl; exact qA; apply stp_cmp; apply s_neq; rfl; rfl; all_goals (intro hc64; try (exfalso; (first | exact hc64 rfl | omega))))); all_goals (apply ol_val; rfl; apply stp_pur; first | (apply s_pick_t; rfl; exact qA; rfl) | (apply s_pick_f; rfl; exact qA; rfl)); all_goals (apply ol_nil))
      | (refine cw_region_id 13 ?_; (apply ol_mv; rfl; rfl); (apply ol_val; rfl; apply stp_cmp; apply s_eql; rfl; rfl; all_goals (intro hc67; try (exfalso; (first | exact hc67 rfl | omega)))); all_goals (apply ol_nil))
      | (refine cw_drawW (id := 15) (own0 := []) 11 (.mv 1 (.mv 2 (.mv 3 (.fx 0 (.fx 4 (.mv 5 (.mv 6 (.mv 7 (.mv 8 (.fx 9 (.mv 10 (PT.nil)))))))))))) mixed (by kernel_rfl) (by (first | exact Wk.refl _ _ | exact qW)) ?_; (apply od_mv; rfl; rfl; apply s_move; rfl); (apply od_mv; rfl; rfl; first | (apply s_indexK; rfl; rfl; exact el_31; exact sz_28; (first | rfl | exact sm.at_ (by rw [List.length_singleton]; omega)); omega) | (apply s_indexO; rfl; rfl; exact el_31; exact sz_28; (first | rfl | exact sm.at_ (by rw [List.length_singleton]; omega)); omega)); (apply od_mv; rfl; rfl; apply s_loadN; rfl; rfl; exact sz_28; (first | exact qQ | (apply RdN.view; exact hci))); (apply od_fx; (first | exact Wk.refl _ _ | exact qW); (apply fx_val; rfl; rfl; apply stp_pur; apply s_loadN; rfl; rfl; exact sz_25; (first | exact qQ | (apply RdN.view; exact hci)))); (apply od_fx; (first | exact Wk.refl _ _ | exact qW); (apply fx_val; rfl; rfl; apply s_callM (xs := []); rfl; exact gf_10; (focus ((repeat (first | exact Pk.nil | (apply Pk.cons; (repeat (first | exact Spl.here | apply Spl.there))))); done)); (intro w' M2 hw' hrd; exact receive_spec hw'.le (s := ⟨1, 2, 0, 2, ⟨exl, xa, ya, za, wa⟩, ⟨[1, 0], xb, yb, zb, wb⟩⟩) (hva.mono (View.le.refl _)) (hx.mono (View.le.refl _))); (intro v F82 ys M82 h hl82 hL82 hF82; unfold LS.val at h; dsimp only at h; rw [hxv, exR3] at h; obtain ⟨u, l82, rfl, hset, hm82, rfl⟩ := h; have ho := SetR.out hset; dsimp only at ho hm82; clear hset; obtain ⟨ta82, tb82, to82, tc82, va82, vb82, vo82, vc82, rfl, st82, sv82, lt82, lv82⟩ := ho))); (apply od_mv; rfl; rfl; apply s_move; rfl); (apply od_mv; rfl; rfl; apply s_extract; rfl; rfl); (apply od_mv; rfl; rfl; apply s_extract; rfl; rfl); (apply od_mv; rfl; rfl; apply s_extract; rfl; rfl); (apply od_fx; (first | exact Wk.refl _ _ | exact qW); (apply fx_eff; rfl; apply s_storeN; rfl; rfl; exact sz_25; rfl; rfl; exact qN; exact qN)); (apply od_mv; rfl; rfl; apply s_assign; rfl); (apply od_nil; (first | exact Wk.refl _ _ | exact qW)); (apply ol_as; rfl; rfl); (apply ol_nil))
      | (refine cw_region_id 10 ?_; (apply ol_mv; rfl; rfl); (apply ol_val; rfl; apply stp_pur; apply s_add64; rfl; rfl; omega); (apply ol_as; rfl; rfl); (apply ol_nil))
      | (apply cw_cond_true; rfl; exact qA)
      | (apply cw_cond_false; rfl; exact qA)
      | apply cw_skip
      | apply cw_ret
      | apply cw_block
      | apply cw_exit
    all_goals (exact ⟨⟨3, ⟨1, 4, 0, 2, ⟨exl, ta82, tb82, to82, tc82⟩, ⟨[1, 1], va82, vb82, vo82, vc82⟩⟩, ⟨1, 4, 1, 2, ⟨exl, pa, qa, ra, sa⟩, ⟨[], pb, qb, rb, sb⟩⟩, l82, M82⟩, ⟨by (repeat (first | exact trivial | refine And.intro rfl ?_)), View.le.refl _, by exact qK, ⟨(by dsimp only; omega), rfl, rfl, ⟨st82.mono hL82, sv82.mono hL82, lt82, lv82⟩, hvb.mono hl82, hm82.mono hL82⟩, by dsimp only; omega⟩⟩)
  · rw [show aS 3 = ⟨1, 4, 0, 2, exl, [1, 1]⟩ from rfl] at hva ⊢
    rw [show bS 3 = ⟨1, 4, 1, 2, exl, []⟩ from rfl] at hvb ⊢
    clear hmv
    dsimp only at hva hvb ⊢
    have k1 : ∀ w', View.le N (View.of w') → _ := fun w' h => mine_spec h hva
    have k2 : ∀ w', View.le N (View.of w') → _ := fun w' h => mine_spec h hvb
    unfold LS.val LS.enc at k1 k2
    dsimp only at k1 k2
    rw [exM0] at k1
    rw [exM1] at k2
    dsimp only at k1 k2
    repeat' first
      | apply cw_seq
      | (refine cw_region_id 9 ?_; (apply ol_mv; rfl; rfl); (apply ol_val; rfl; apply stp_cmp; apply s_lss; rfl; rfl; all_goals (intro hc56; try (exfalso; (first | exact hc56 rfl | omega)))); all_goals (apply ol_nil))
      | (refine cw_region_id 16 ?_; (apply ol_ldN; rfl; rfl; rfl; exact sz_25; exact qQ); (apply ol_val; rfl; apply s_callv; rfl; exact gf_15; (intro w' hw'; first | exact k1 w' hw'.le | exact k2 w' hw'.le)); (apply ol_mv; rfl; rfl); (apply ol_ex; rfl; rfl; rfl); (apply ol_ex; rfl; rfl; rfl); (apply ol_as; rfl; rfl); (apply ol_as; rfl; rfl); (apply ol_nil))
      | (refine cw_region_id 17 ?_; (apply ol_ldN; rfl; rfl; rfl; exact sz_25; exact qQ); (apply ol_val; rfl; apply s_callv; rfl; exact gf_15; (intro w' hw'; first | exact k1 w' hw'.le | exact k2 w' hw'.le)); (apply ol_mv; rfl; rfl); (apply ol_ex; rfl; rfl; rfl); (apply ol_ex; rfl; rfl; rfl); (apply ol_as; rfl; rfl); (apply ol_as; rfl; rfl); (apply ol_nil))
      | (refine cw_region_id 18 ?_; (apply ol_mv; rfl; rfl); (apply ol_val; rfl; apply stp_cmp; apply s_eql; rfl; rfl; all_goals (intro hc97; try (exfalso; (first | exact hc97 rfl | omega)))); all_goals (apply ol_mv; rfl; rfl); all_goals (first | (apply ol_gskip; rfl; rfl; exact qA; rfl) | (apply ol_gval; rfl; rfl; rfl; exact qA; apply stp_pur; apply s_fieldAddr'; rfl; exact fd_25_1; exact qZ)); all_goals (first | (apply ol_gskip; rfl; rfl; exact qA; rfl) | (apply ol_gval; rfl; rfl; rfl; exact qA; apply stp_pur; apply s_load1; rfl; rfl; exact qP)); all_goals (first | (apply ol_gskip; rfl; rfl; exact qA; rfl) | (apply ol_gval; rfl; rfl; rfl; exact qA; apply stp_cmp; apply s_eql; rfl; rfl; all_goals (intro hc101; try (exfalso; (first | exact hc101 rfl | omega))))); all_goals (apply ol_val; rfl; apply stp_pur; first | (apply s_pick_t; rfl; exact qA; rfl) | (apply s_pick_f; rfl; exact qA; rfl)); all_goals (apply ol_mv; rfl; rfl); all_goals (first | (apply ol_gskip; rfl; rfl; exact qA; rfl) | (apply ol_gval; rfl; rfl; rfl; exact qA; apply stp_pur; apply s_fieldAddr'; rfl; exact fd_25_1; exact qZ)); all_goals (first | (apply ol_gskip; rfl; rfl; exact qA; rfl) | (apply ol_gval; rfl; rfl; rfl; exact qA; apply stp_pur; apply s_load1; rfl; rfl; exact qP)); all_goals (first | (apply ol_gskip; rfl; rfl; exact qA; rfl) | (apply ol_gval; rfl; rfl; rfl; exact qA; apply stp_cmp; apply s_eql; rfl; rfl; all_goals (intro hc106; try (exfalso; (first | exact hc106 rfl | omega))))); all_goals (apply ol_val; rfl; apply stp_pur; first | (apply s_pick_t; rfl; exact qA; rfl) | (apply s_pick_f; rfl; exact qA; rfl)); all_goals (apply ol_mv; rfl; rfl); all_goals (first | (apply ol_gskip; rfl; rfl; exact qA; rfl) | (apply ol_gval; rfl; rfl; rfl; exact qA; apply stp_pur; apply s_move; rfl)); all_goals (first | (apply ol_gskip; rfl; rfl; exact qA; rfl) | (apply ol_gval; rfl; rfl; rfl; exact qA; apply stp_cmp; apply s_eql; rfl; rfl; all_goals (intro hc110; try (exfalso; (first | exact hc110 rfl | omega))))); all_goals (apply ol_val; rfl; apply stp_pur; first | (apply s_pick_t; rfl; exact qA; rfl) | (apply s_pick_f; rfl; exact qA; rfl)); all_goals (apply ol_mv; rfl; rfl); all_goals (first | (apply ol_gskip; rfl; rfl; exact qA; rfl) | (apply ol_gval; rfl; rfl; rfl; exact qA; apply stp_pur; apply s_move; rfl)); all_goals (first | (apply ol_gskip; rfl; rfl; exact qA; rfl) | (apply ol_gval; rfl; rfl; rfl; exact qA; apply stp_cmp; apply s_eql; rfl; rfl; all_goals (intro hc114; try (exfalso; (first | exact hc114 rfl | omega))))); all_goals (apply ol_val; rfl; apply stp_pur; first | (apply s_pick_t; rfl; exact qA; rfl) | (apply s_pick_f; rfl; exact qA; rfl)); all_goals (apply ol_mv; rfl; rfl); all_goals (first | (apply ol_gskip; rfl; rfl; exact qA; rfl) | (apply ol_gval; rfl; rfl; rfl; exact qA; apply stp_pur; apply s_move; rfl)); all_goals (first | (apply ol_gskip; rfl; rfl; exact qA; rfl) | (apply ol_gval; rfl; rfl; rfl; exact qA; apply stp_cmp; apply s_eql; rfl; rfl; all_goals (intro hc118; try (exfalso; (first | exact hc118 rfl | omega))))); all_goals (apply ol_val; rfl; apply stp_pur; first | (apply s_pick_t; rfl; exact qA; rfl) | (apply s_pick_f; rfl; exact qA; rfl)); all_goals (apply ol_mv; rfl; rfl); all_goals (first | (apply ol_gskip; rfl; rfl; exact qA; rfl) | (apply ol_gval; rfl; rfl; rfl; exact qA; apply stp_pur; apply s_move; rfl)); all_goals (first | (apply ol_gskip; rfl; rfl; exact qA; rfl) | (apply ol_gval; rfl; rfl; rfl; exact qA; apply stp_cmp; apply s_eql; rfl; rfl; all_goals (intro hc122; try (exfalso; (first | exact hc122 rfl | omega))))); all_goals (apply ol_val; rfl; apply stp_pur; first | (apply s_pick_t; rfl; exact qA; rfl) | (apply s_pick_f; rfl; exact qA; rfl)); all_goals (apply ol_as; rfl; rfl); all_goals (apply ol_nil))
      | (apply cw_cond_true; rfl; exact qA)
      | (apply cw_cond_false; rfl; exact qA)
      | apply cw_skip
      | apply cw_ret
      | apply cw_block
      | apply cw_exit
    all_goals (refine ends [] (RVal.tmp rfl RVal.nil) Pick.nil ?_; rfl)
end Go.Proofs.Ytagmoecojmlogaa
namespace Go.Proofs.Ytagmoecojmlogaa
set_option maxRecDepth 20000
set_option linter.unusedSimpArgs false
set_option linter.unusedVariables false
open Go Go.Fw
theorem fewB_lens {s : SV} (h : fewB s = true) : s.tr.length ≤ 320 ∧ s.vo.length ≤ 20 := by
  unfold fewB at h
  have := of_decide_eq_true h
  omega
end Go.Proofs.Ytagmoecojmlogaa
namespace Go.Proofs.Ytagmoecojmlogaa
set_option maxRecDepth 20000
set_option linter.unusedSimpArgs false
set_option linter.unusedVariables false
open Go Go.Fw
attribute [local irreducible] CW OL OD FX Stp FnC FnV FnA FnM Ret svB noneV hz bodyP strOf mvB bitM coordP partP recvP beginP tickP newP mnP dcP fewB
set_option maxHeartbeats 1600000
theorem law_decides (M : View) (w : World) (hM : View.le M (View.of w)) (s : LS) (s1 : SlA M C3.enc 3 s.T.a s.T.xs s.T.b s.T.o) (s2 : SlA M (eK .i64) 1 s.V.a s.V.xs s.V.b s.V.o) : FnC Try.prog 4 [.agg s.enc.toArray] w (fun v _ => v = .bool true) := by
  have kf := fun (w' : World) => few_spec w' s
  have kw := fun (w' : World) => awake_spec w'
  have kL := fun (h : fewB s.val = true) => (⟨s1, s2, by have := (fewB_lens h).1; exact Nat.le_trans this (by decide), by have := (fewB_lens h).2; exact Nat.le_trans this (by decide)⟩ : LsV M s)
  cases hf : fewB s.val with
  | false =>
    rw [hf] at kf
    unfold LS.enc at kf ⊢
    refine enterF (M := M) Try.func4 rfl rfl rfl rfl hM ?_
    repeat' first
      | apply cw_seq
      | (refine cw_region_id 0 ?_; (apply ol_val; rfl; first | (apply s_boxN; rfl; intro bk1) | (apply s_box1; rfl; rfl; intro bk1)); (apply ol_as; rfl; rfl); (apply ol_nil))
      | (refine cw_region_id 1 ?_; (apply ol_val; rfl; apply s_callv; rfl; exact gf_8; (intro w' hw'; exact kw w')); (apply ol_val; rfl; apply stp_pur; first | (apply s_not_t; rfl; exact qA) | (apply s_not_f; rfl; exact qA) | (apply s_not; rfl)); (apply ol_nil))
      | (refine cw_region_id 3 ?_; (apply ol_ldN; rfl; rfl; rfl; exact sz_25; exact qQ); (apply ol_val; rfl; apply s_callv; rfl; exact gf_9; (intro w' hw'; exact kf w')); (apply ol_val; rfl; apply stp_pur; first | (apply s_not_t; rfl; exact qA) | (apply s_not_f; rfl; exact qA) | (apply s_not; rfl)); (apply ol_nil))
      | (refine cw_region_id 4 ?_; (apply ol_as; rfl; rfl); (apply ol_nil))
      | (apply cw_cond_true; rfl; exact qA)
      | (apply cw_cond_false; rfl; exact qA)
      | apply cw_skip
      | apply cw_ret
      | apply cw_block
      | apply cw_exit
    all_goals (refine ends [] (RVal.tmp rfl RVal.nil) Pick.nil ?_; rfl)
  | true =>
    rw [hf] at kf
    have hs := kL hf
    have k1 := fun (w' : World) (h : View.le M (View.of w')) => decided_spec h hs
    have k2 := fun (w' : World) (h : View.le M (View.of w')) => mine_spec h hs
    have k3 := fun (w' : World) (h : View.le M (View.of w')) => rdecided_spec h hs
    have k4 := fun (w' : World) (h : View.le M (View.of w')) => rmine_spec h hs
    clear kL hf hs
    generalize dcP s.val = d at *
    generalize mnP s.val = m at *
    obtain ⟨d1, d2⟩ := d
    obtain ⟨m1, m2⟩ := m
    dsimp only at k1 k2 k3 k4
    unfold LS.enc at kf k1 k2 k3 k4 ⊢
    cases d1 <;> cases d2
    all_goals
      refine enterF (M := M) Try.func4 rfl rfl rfl rfl hM ?_
      repeat' first
        | apply cw_seq
        | (refine cw_region_id 0 ?_; (apply ol_val; rfl; first | (apply s_boxN; rfl; intro bk1) | (apply s_box1; rfl; rfl; intro bk1)); (apply ol_as; rfl; rfl); (apply ol_nil))
        | (refine cw_region_id 1 ?_; (apply ol_val; rfl; apply s_callv; rfl; exact gf_8; (intro w' hw'; exact kw w')); (apply ol_val; rfl; apply stp_pur; first | (apply s_not_t; rfl; exact qA) | (apply s_not_f; rfl; exact qA) | (apply s_not; rfl)); (apply ol_nil))
        | (refine cw_region_id 3 ?_; (apply ol_ldN; rfl; rfl; rfl; exact sz_25; exact qQ); (apply ol_val; rfl; apply s_callv; rfl; exact gf_9; (intro w' hw'; exact kf w')); (apply ol_val; rfl; apply stp_pur; first | (apply s_not_t; rfl; exact qA) | (apply s_not_f; rfl; exact qA) | (apply s_not; rfl)); (apply ol_nil))
        | (refine cw_region_id 5 ?_; (apply ol_ldN; rfl; rfl; rfl; exact sz_25; exact qQ); (apply ol_val; rfl; apply s_callv; rfl; exact gf_14; (intro w' hw'; exact k1 w' hw'.le)); (apply ol_mv; rfl; rfl); (apply ol_ex; rfl; rfl; rfl); (apply ol_ex; rfl; rfl; rfl); (apply ol_as; rfl; rfl); (apply ol_as; rfl; rfl); (apply ol_nil))
        | (refine cw_region_id 6 ?_; (apply ol_ldN; rfl; rfl; rfl; exact sz_25; exact qQ); (apply ol_val; rfl; apply s_callv; rfl; exact gf_15; (intro w' hw'; exact k2 w' hw'.le)); (apply ol_mv; rfl; rfl); (apply ol_ex; rfl; rfl; rfl); (apply ol_ex; rfl; rfl; rfl); (apply ol_as; rfl; rfl); (apply ol_as; rfl; rfl); (apply ol_nil))
        | (refine cw_region_id 7 ?_; (apply ol_ldN; rfl; rfl; rfl; exact sz_25; exact qQ); (apply ol_val; rfl; apply s_callv; rfl; exact gf_16; (intro w' hw'; exact k3 w' hw'.le)); (apply ol_mv; rfl; rfl); (apply ol_ex; rfl; rfl; rfl); (apply ol_ex; rfl; rfl; rfl); (apply ol_as; rfl; rfl); (apply ol_as; rfl; rfl); (apply ol_nil))
        | (refine cw_region_id 8 ?_; (apply ol_ldN; rfl; rfl; rfl; exact sz_25; exact qQ); (apply ol_val; rfl; apply s_callv; rfl; exact gf_17; (intro w' hw'; exact k4 w' hw'.le)); (apply ol_mv; rfl; rfl); (apply ol_ex; rfl; rfl; rfl); (apply ol_ex; rfl; rfl; rfl); (apply ol_as; rfl; rfl); (apply ol_as; rfl; rfl); (apply ol_nil))
        | (refine cw_region_id 9 ?_; (apply ol_mv; rfl; rfl); (apply ol_mv; rfl; rfl); (apply ol_val; rfl; apply stp_pur; apply s_eqlB; rfl; rfl; exact ub_4); (apply ol_mv; rfl; rfl); (first | (apply ol_gskip; rfl; rfl; exact qA; rfl) | (apply ol_gval; rfl; rfl; rfl; exact qA; apply stp_pur; apply s_move; rfl)); (first | (apply ol_gskip; rfl; rfl; exact qA; rfl) | (apply ol_gval; rfl; rfl; rfl; exact qA; apply stp_pur; apply s_move; rfl)); (first | (apply ol_gskip; rfl; rfl; exact qA; rfl) | (apply ol_gval; rfl; rfl; rfl; exact qA; apply stp_pur; apply s_eqlB; rfl; rfl; exact ub_4)); (apply ol_val; rfl; apply stp_pur; first | (apply s_pick_t; rfl; exact qA; rfl) | (apply s_pick_f; rfl; exact qA; rfl)); (apply ol_mv; rfl; rfl); (first | (apply ol_gskip; rfl; rfl; exact qA; rfl) | (apply ol_gval; rfl; rfl; rfl; exact qA; apply stp_pur; apply s_move; rfl)); (first | (apply ol_gskip; rfl; rfl; exact qA; rfl) | (apply ol_gval; rfl; rfl; rfl; exact qA; apply stp_pur; apply s_move; rfl)); (first | (apply ol_gskip; rfl; rfl; exact qA; rfl) | (apply ol_gval; rfl; rfl; rfl; exact qA; apply stp_cmp; apply s_eql; rfl; rfl; all_goals (intro hc47; try (exfalso; (first | exact hc47 rfl | omega))))); all_goals (apply ol_val; rfl; apply stp_pur; first | (apply s_pick_t; rfl; exact qA; rfl) | (apply s_pick_f; rfl; exact qA; rfl)); all_goals (apply ol_mv; rfl; rfl); all_goals (first | (apply ol_gskip; rfl; rfl; exact qA; rfl) | (apply ol_gval; rfl; rfl; rfl; exact qA; apply stp_pur; apply s_move; rfl)); all_goals (first | (apply ol_gskip; rfl; rfl; exact qA; rfl) | (apply ol_gval; rfl; rfl; rfl; exact qA; apply stp_pur; apply s_move; rfl)); all_goals (first | (apply ol_gskip; rfl; rfl; exact qA; rfl) | (apply ol_gval; rfl; rfl; rfl; exact qA; apply stp_cmp; apply s_eql; rfl; rfl; all_goals (intro hc52; try (exfalso; (first | exact hc52 rfl | omega))))); all_goals (apply ol_val; rfl; apply stp_pur; first | (apply s_pick_t; rfl; exact qA; rfl) | (apply s_pick_f; rfl; exact qA; rfl)); all_goals (apply ol_as; rfl; rfl); all_goals (apply ol_nil))
        | (apply cw_cond_true; rfl; exact qA)
        | (apply cw_cond_false; rfl; exact qA)
        | apply cw_skip
        | apply cw_ret
        | apply cw_block
        | apply cw_exit
      all_goals (refine ends [] (RVal.tmp rfl RVal.nil) Pick.nil ?_; rfl)
end Go.Proofs.Ytagmoecojmlogaa
