/-
  The walk of the hash.
-/
import Derived.Test.YtelidojkpbaofaaDoorW6
namespace Go.Proofs.YtelidojkpbaofaaDoor
set_option maxRecDepth 20000
set_option linter.unusedSimpArgs false
set_option linter.unusedVariables false
open Go Go.Fw
attribute [local irreducible] CW OL OD FX Stp FnC Ret
set_option maxHeartbeats 800000

theorem isB.mem {p : List Int} (h : isB p) : ∀ x ∈ p, 0 ≤ x ∧ x ≤ 255 := by
  intro x hx
  obtain ⟨i, hi, rfl⟩ := List.mem_iff_getElem.1 hx
  have := h i
  simpa [List.getD, List.getElem?_eq_getElem hi] using this
theorem isB.of {p : List Int} (h : ∀ x ∈ p, 0 ≤ x ∧ x ≤ 255) : isB p := by
  intro i
  by_cases hi : i < p.length
  · have := h p[i] (List.getElem_mem hi)
    simpa [List.getD, List.getElem?_eq_getElem hi] using this
  · simp [List.getD, List.getElem?_eq_none (Nat.le_of_not_lt hi)]
theorem isB_be8 (n : Int) : isB (be8 n) := .of fun x hx => by
  obtain ⟨i, _, rfl⟩ := List.mem_map.1 hx
  rw [wrapU8]; omega
theorem isB.append {p q : List Int} (h1 : isB p) (h2 : isB q) : isB (p ++ q) := .of fun x hx => (List.mem_append.1 hx).elim (h1.mem x) (h2.mem x)
theorem isB_pad {p : List Int} (h : isB p) : isB (pad p) :=
  ((h.append (.of fun x hx => by simp at hx; omega)).append (.of fun x hx => by rw [(List.mem_replicate.1 hx).2]; omega)).append (isB_be8 _)
theorem isB.part {p : List Int} (h : isB p) (l m : Nat) : isB ((p.drop l).take m) := .of fun x hx => h.mem x (List.mem_of_mem_drop (List.mem_of_mem_take hx))
theorem isB_sha (p : List Int) : isB (sha p) := .of fun x hx => by
  obtain ⟨i, _, rfl⟩ := List.mem_map.1 hx
  rw [wrapU8]; omega

theorem SlA.part {w : World} {q : Nat} {k : IntKind} {xs : List Int} {sp : List Value} {T : TypeId} (hok : OB.ok ⟨some q, flat (eK k) xs ++ sp, T⟩ w) (l m : Nat) : SlA (View.of w) (eK k) 1 (some ⟨q, l, none⟩) ((xs.drop l).take m) q l := by
  refine ⟨fun _ => rfl, fun i hi => ?_⟩
  have hi' : l + i < xs.length := by simp at hi; omega
  have h := (SlA.own (A := none) (eK_length k) hok (fun h => by cases h)).cells (l + i) hi'
  have e : ((xs.drop l).take m)[i] = xs[l + i] := by simp
  rw [e, show l + i * 1 = 0 + (l + i) * 1 by omega]
  exact h

def oA (S : H8) (m : Nat) : List Int := outN S m ++ List.replicate (32 - m) 0
theorem oA_length {S : H8} {m : Nat} (h : m ≤ 32) : (oA S m).length = 32 := by unfold oA; rw [List.length_append, outN_length, List.length_replicate]; omega
theorem oA_step {S : H8} {i k : Nat} (hi : i < 8) (hk : k < 4) : oA S (4 * i + (k + 1)) = (oA S (4 * i + k)).set (4 * i + k) (IntKind.u8.wrap (S.l.getD i 0 / 2 ^ (24 - 8 * (k : Int)).toNat)) := by
  unfold oA
  rw [set_fill (outN_length _ _) (by omega), ← Nat.add_assoc, outN_succ, show (4 * i + k) / 4 = i by omega, show (4 * i + k) % 4 = k by omega, show (24 - 8 * (k : Int)).toNat = 24 - 8 * k by omega]
  rfl
theorem oA_all (S : H8) : oA S 32 = outB S := by simp [oA, outB]

structure BSt where
  n : Nat
  A : Option Addr

theorem sum_spec {M : View} {w : World} (hM : View.le M (View.of w)) (hL : Laid M) {p : List Int} {n c : Nat} (hn : p.length = n) (hl : n ≤ 1073741824) (hb : isB p) {a : Option Addr} {b o : Nat} (s : SlA M (eK .u8) 1 a p b o) :
    FnC Tryd.prog 39 [.slice a n c] w (fun v _ => v = .agg (flat (eK .u8) (sha p)).toArray) := by
  subst hn
  refine enterF (M := M) Tryd.func39 rfl rfl rfl rfl hM ?_
  obtain ⟨z1, z2⟩ := zer_spec p.length
  refine cw_none 5 ?_
  repeat' first
    | apply cw_seq
    | (refine cw_region_id 0 ?_; (apply ol_val; exact rfl; apply s_allocK; exact zk_67; intro bk2); (apply ol_nil))
    | (refine cw_region_id 1 ?_; (apply ol_mv; exact rfl; exact rfl); (apply ol_val; exact rfl; apply s_call; exact rfl; exact gf_45; (intro w' hw'; exact cloneB_spec (View.le.refl (View.of w')) rfl (s.mono hw'.le) (by omega)); ((intro v new h; obtain ⟨r1, A1, c1, s1, rfl, rfl, so1⟩ := h))); (apply ol_val; exact rfl; apply s_buildSl; exact rfl; exact el_22; exact sz_5; exact zb_5; (focus ((repeat constructor); done)); exact rfl; exact rfl; (exact Nat.le_of_ble_eq_true rfl); (focus ((repeat constructor); done)); (focus ((repeat (first | exact rfl | constructor)); done)); intro bk11); (apply ol_val; exact rfl; first | (apply s_append_e; exact rfl; exact rfl; (focus ((repeat constructor); done)); exact el_22; exact sz_5; exact zb_5; exact rfl; exact by_5; (first | exact (fun _ => rfl) | (intro _; exact s.at_ (by omega))); (first | (apply RdN.own; (focus ((repeat constructor); done)); (focus ((repeat (first | exact rfl | constructor)); done)))); (first | exact rfl | exact flatK_ones); (first | omega | (simp; omega) | (simp; done)); (first | omega | (simp; omega) | (simp; done)); intro rk12 sk12 ck12 ok12) | (apply s_append_r; exact rfl; exact rfl; (focus ((repeat constructor); done)); (first | exact rfl | exact (List.append_nil _).symm); exact el_22; exact sz_5; exact zb_5; exact rfl; exact by_5; (first | exact SO.nil _ | assumption | (exact ⟨by simp, by simp, Nat.le_refl _, by simp⟩)); (first | exact (fun _ => rfl) | (intro _; exact s.at_ (by omega))); (first | (apply RdN.own; (focus ((repeat constructor); done)); (focus ((repeat (first | exact rfl | constructor)); done)))); (first | exact rfl | exact flatK_ones); (first | omega | (simp; omega) | (simp; done)); (first | omega | (simp; omega) | (simp; done)); intro rk12 sk12 ck12 ok12) | (apply s_append_b; exact rfl; exact rfl; (focus ((repeat constructor); done)); (first | exact rfl | exact (List.append_nil _).symm); exact el_22; exact sz_5; exact zb_5; exact rfl; exact by_5; (first | exact SO.nil _ | assumption | (exact ⟨by simp, by simp, Nat.le_refl _, by simp⟩)); (first | exact (fun _ => rfl) | (intro _; exact s.at_ (by omega))); (first | (apply RdN.own; (focus ((repeat constructor); done)); (focus ((repeat (first | exact rfl | constructor)); done)))); (first | exact rfl | exact flatK_ones); (first | omega | (simp; omega) | (simp; done)); (first | omega | (simp; omega) | (simp; done)); intro rk12 sk12 ck12 ok12) | (apply s_append_n; exact rfl; exact rfl; (focus ((repeat constructor); done)); exact el_22; exact sz_5; exact zb_5; exact rfl; exact by_5; (first | exact (fun _ => rfl) | (intro _; exact s.at_ (by omega))); (first | (apply RdN.own; (focus ((repeat constructor); done)); (focus ((repeat (first | exact rfl | constructor)); done)))); (first | exact rfl | exact flatK_ones); (first | omega | (simp; omega) | (simp; done)); (first | omega | (simp; omega) | (simp; done)); intro rk12 sk12 ck12 ok12)); (apply ol_as; exact rfl; exact rfl); (apply ol_nil))
    | (apply cw_cond_true; exact rfl; (first | exact rfl | assumption))
    | (apply cw_cond_false; exact rfl; (first | exact rfl | assumption))
    | apply cw_skip
    | apply cw_ret
    | apply cw_block
    | apply cw_exit
  have e0 : flat (eK .u8) (padN p 0) = flat (eK .u8) p ++ [.int .u8 128] := by simp [padN, flat]
  refine cw_loopK (σ := RSt) [0, 2] (by (repeat (first | exact Keep.nil | (apply Keep.cons; exact rfl)))) (fun s => [(3, .slice (base s.r A1) (p.length + 1 + s.k) s.c)]) (fun _ => M) (fun s => [⟨s.r, flat (eK .u8) (padN p s.k) ++ s.sp, 5⟩, ⟨some bk2, flat (eK .u8) (List.replicate 32 0), 67⟩]) (fun s => s.k ≤ zer p.length ∧ SO s.r (p.length + 1 + s.k) s.c (flat (eK .u8) (padN p s.k)) s.sp 1) (fun s => zer p.length - s.k) ⟨0, rk12, ck12, sk12⟩ (by (repeat (first | exact trivial | refine And.intro rfl ?_))) (View.le.refl _) (by dsimp only; rw [e0]; (repeat (first | exact Pick.nil | (apply Pick.cons; (focus ((repeat (first | exact Spl.here | apply Spl.there)); done))) | exact Pick.refl))) ⟨by dsimp only; omega, by dsimp only; rw [e0]; exact ok12⟩ ?_
  clear ok12 so1 e0
  rintro ⟨k, r, c', sp⟩ ⟨hk, so⟩
  dsimp only at hk so
  dsimp only
  by_cases hk' : k < zer p.length
  · have hst := padN_succ p k
    repeat' first
      | apply cw_seq
      | (refine cw_region_id 2 ?_; (apply ol_mv; exact rfl; exact rfl); (apply ol_val; exact rfl; apply stp_pur; apply s_len; exact rfl; exact el_22); (apply ol_val; exact rfl; apply stp_pur; first | (apply s_rem64; exact rfl; exact rfl; omega) | (apply s_remT; exact rfl; exact rfl; omega)); (apply ol_val; exact rfl; apply stp_cmp; apply s_neq; exact rfl; exact rfl; all_goals (intro hc16; try (exfalso; (first | exact hc16 rfl | omega)))); all_goals (apply ol_nil))
      | (refine cw_region_id 3 ?_; (apply ol_mv; exact rfl; exact rfl); (apply ol_val; exact rfl; apply s_buildSl; exact rfl; exact el_22; exact sz_5; exact zb_5; (focus ((repeat constructor); done)); exact rfl; exact rfl; (exact Nat.le_of_ble_eq_true rfl); (focus ((repeat constructor); done)); (focus ((repeat (first | exact rfl | constructor)); done)); intro bk18); (apply ol_val; exact rfl; first | (apply s_append_e; exact rfl; exact rfl; (focus ((repeat constructor); done)); exact el_22; exact sz_5; exact zb_5; exact rfl; exact by_5; (first | exact (fun _ => rfl)); (first | (apply RdN.own; (focus ((repeat constructor); done)); (focus ((repeat (first | exact rfl | constructor)); done)))); (first | exact rfl); (first | omega | (simp; omega) | (simp; done)); (first | omega | (simp; omega) | (simp; done)); intro rk19 sk19 ck19 ok19) | (apply s_append_r; exact rfl; exact rfl; (focus ((repeat constructor); done)); (first | exact rfl | exact (List.append_nil _).symm); exact el_22; exact sz_5; exact zb_5; exact rfl; exact by_5; (first | exact SO.nil _ | assumption | (exact ⟨by simp, by simp, Nat.le_refl _, by simp⟩)); (first | exact (fun _ => rfl)); (first | (apply RdN.own; (focus ((repeat constructor); done)); (focus ((repeat (first | exact rfl | constructor)); done)))); (first | exact rfl); (first | omega | (simp; omega) | (simp; done)); (first | omega | (simp; omega) | (simp; done)); intro rk19 sk19 ck19 ok19) | (apply s_append_b; exact rfl; exact rfl; (focus ((repeat constructor); done)); (first | exact rfl | exact (List.append_nil _).symm); exact el_22; exact sz_5; exact zb_5; exact rfl; exact by_5; (first | exact SO.nil _ | assumption | (exact ⟨by simp, by simp, Nat.le_refl _, by simp⟩)); (first | exact (fun _ => rfl)); (first | (apply RdN.own; (focus ((repeat constructor); done)); (focus ((repeat (first | exact rfl | constructor)); done)))); (first | exact rfl); (first | omega | (simp; omega) | (simp; done)); (first | omega | (simp; omega) | (simp; done)); intro rk19 sk19 ck19 ok19) | (apply s_append_n; exact rfl; exact rfl; (focus ((repeat constructor); done)); exact el_22; exact sz_5; exact zb_5; exact rfl; exact by_5; (first | exact (fun _ => rfl)); (first | (apply RdN.own; (focus ((repeat constructor); done)); (focus ((repeat (first | exact rfl | constructor)); done)))); (first | exact rfl); (first | omega | (simp; omega) | (simp; done)); (first | omega | (simp; omega) | (simp; done)); intro rk19 sk19 ck19 ok19)); (apply ol_as; exact rfl; exact rfl); (apply ol_nil))
      | (refine cw_region_id 4 ?_; (apply ol_mv; exact rfl; exact rfl); (apply ol_mv; exact rfl; exact rfl); (apply ol_val; exact rfl; apply stp_pur; apply s_len; exact rfl; exact el_22); (apply ol_val; exact rfl; apply stp_pur; first | (apply s_conv; exact rfl; exact rfl; exact ti_73; (focus (apply wrap_u64; omega))) | (apply s_conv; exact rfl; exact rfl; exact ti_73; exact rfl)); (apply ol_val; exact rfl; apply stp_pur; apply s_mulW; exact rfl; exact rfl))
      | (refine cw_region_id 5 ?_; (apply ol_ldN; exact rfl; exact rfl; exact rfl; exact sz_75; (apply RdN.own; (focus ((repeat constructor); done)); (apply getNK_all; (first | assumption | (rw [List.length_replicate]))))); (apply ol_val; exact rfl; apply s_allocK; exact zk_75; intro bk4); (apply ol_eff; apply s_storeK; exact rfl; exact rfl; exact sz_75; (focus ((repeat constructor); done)); (first | assumption | (rw [List.length_replicate])); (first | assumption | (rw [List.length_replicate]))); (apply ol_nil))
      | (apply cw_cond_true; exact rfl; (first | exact rfl | assumption))
      | (apply cw_cond_false; exact rfl; (first | exact rfl | assumption))
      | apply cw_skip
      | apply cw_ret
      | apply cw_block
      | apply cw_exit
    refine ⟨⟨k + 1, rk19, ck19, sk19⟩, ⟨by (repeat (first | exact trivial | refine And.intro rfl ?_)), View.le.refl _, ?_, ⟨hk', ?_⟩, by dsimp only; omega⟩⟩
    · dsimp only
      rw [hst, flat_append]
      (repeat (first | exact Pick.nil | (apply Pick.cons; (focus ((repeat (first | exact Spl.here | apply Spl.there)); done))) | exact Pick.refl))
    · dsimp only
      rw [hst, flat_append]
      exact ok19
  · have : k = zer p.length := by omega
    subst this
    have hb8 := be8_length (8 * (p.length : Int))
    have he := pad_eq p
    have hl2 := (pad_length p).2
    have hl3 := (pad_length p).1
    have hcount : ∀ w', FnC Tryd.prog 46 [.int .u64 (IntKind.u64.wrap (8 * (p.length : Int)))] w' (RowRes (eK .u8) 1 5 (be8 (8 * (p.length : Int)))) := fun w' => by
      rw [wrap_u64 (by omega)]; exact count_spec w' _
    have hbp := isB_pad hb
    generalize be8 (8 * (p.length : Int)) = B at *
    repeat' first
      | apply cw_seq
      | (refine cw_region_id 2 ?_; (apply ol_mv; exact rfl; exact rfl); (apply ol_val; exact rfl; apply stp_pur; apply s_len; exact rfl; exact el_22); (apply ol_val; exact rfl; apply stp_pur; first | (apply s_rem64; exact rfl; exact rfl; omega) | (apply s_remT; exact rfl; exact rfl; omega)); (apply ol_val; exact rfl; apply stp_cmp; apply s_neq; exact rfl; exact rfl; all_goals (intro hc16; try (exfalso; (first | exact hc16 rfl | omega)))); all_goals (apply ol_nil))
      | (refine cw_region_id 3 ?_; (apply ol_mv; exact rfl; exact rfl); (apply ol_val; exact rfl; apply s_buildSl; exact rfl; exact el_22; exact sz_5; exact zb_5; (focus ((repeat constructor); done)); exact rfl; exact rfl; (exact Nat.le_of_ble_eq_true rfl); (focus ((repeat constructor); done)); (focus ((repeat (first | exact rfl | constructor)); done)); intro bk18); (apply ol_val; exact rfl; first | (apply s_append_e; exact rfl; exact rfl; (focus ((repeat constructor); done)); exact el_22; exact sz_5; exact zb_5; exact rfl; exact by_5; (first | exact (fun _ => rfl) | (intro _; exact (show base (some qb) Ab = _ from rfl))); (first | (apply RdN.own; (focus ((repeat constructor); done)); (focus ((repeat (first | exact rfl | constructor)); done))) | (apply RdN.own; (focus ((repeat constructor); done)); exact getNK_row)); (first | exact rfl | exact flatK_ones); (first | omega | (simp; omega) | (simp; done)); (first | omega | (simp; omega) | (simp; done)); intro rk19 sk19 ck19 ok19) | (apply s_append_r; exact rfl; exact rfl; (focus ((repeat constructor); done)); (first | exact rfl | exact (List.append_nil _).symm); exact el_22; exact sz_5; exact zb_5; exact rfl; exact by_5; (first | exact SO.nil _ | assumption | (exact ⟨by simp, by simp, Nat.le_refl _, by simp⟩)); (first | exact (fun _ => rfl) | (intro _; exact (show base (some qb) Ab = _ from rfl))); (first | (apply RdN.own; (focus ((repeat constructor); done)); (focus ((repeat (first | exact rfl | constructor)); done))) | (apply RdN.own; (focus ((repeat constructor); done)); exact getNK_row)); (first | exact rfl | exact flatK_ones); (first | omega | (simp; omega) | (simp; done)); (first | omega | (simp; omega) | (simp; done)); intro rk19 sk19 ck19 ok19) | (apply s_append_b; exact rfl; exact rfl; (focus ((repeat constructor); done)); (first | exact rfl | exact (List.append_nil _).symm); exact el_22; exact sz_5; exact zb_5; exact rfl; exact by_5; (first | exact SO.nil _ | assumption | (exact ⟨by simp, by simp, Nat.le_refl _, by simp⟩)); (first | exact (fun _ => rfl) | (intro _; exact (show base (some qb) Ab = _ from rfl))); (first | (apply RdN.own; (focus ((repeat constructor); done)); (focus ((repeat (first | exact rfl | constructor)); done))) | (apply RdN.own; (focus ((repeat constructor); done)); exact getNK_row)); (first | exact rfl | exact flatK_ones); (first | omega | (simp; omega) | (simp; done)); (first | omega | (simp; omega) | (simp; done)); intro rk19 sk19 ck19 ok19) | (apply s_append_n; exact rfl; exact rfl; (focus ((repeat constructor); done)); exact el_22; exact sz_5; exact zb_5; exact rfl; exact by_5; (first | exact (fun _ => rfl) | (intro _; exact (show base (some qb) Ab = _ from rfl))); (first | (apply RdN.own; (focus ((repeat constructor); done)); (focus ((repeat (first | exact rfl | constructor)); done))) | (apply RdN.own; (focus ((repeat constructor); done)); exact getNK_row)); (first | exact rfl | exact flatK_ones); (first | omega | (simp; omega) | (simp; done)); (first | omega | (simp; omega) | (simp; done)); intro rk19 sk19 ck19 ok19)); (apply ol_as; exact rfl; exact rfl); (apply ol_nil))
      | (refine cw_region_id 4 ?_; (apply ol_mv; exact rfl; exact rfl); (apply ol_mv; exact rfl; exact rfl); (apply ol_val; exact rfl; apply stp_pur; apply s_len; exact rfl; exact el_22); (apply ol_val; exact rfl; apply stp_pur; first | (apply s_conv; exact rfl; exact rfl; exact ti_73; (focus (apply wrap_u64; omega))) | (apply s_conv; exact rfl; exact rfl; exact ti_73; exact rfl)); (apply ol_val; exact rfl; apply stp_pur; apply s_mulW; exact rfl; exact rfl); (apply ol_val; exact rfl; apply s_call; exact rfl; exact gf_46; (intro w' hw'; exact hcount w'); ((intro v new h; obtain ⟨rb, Ab, cb, sb, rfl, rfl, sob⟩ := h; obtain ⟨qb, rfl⟩ : ∃ q, rb = some q := ⟨_, some_ref sob (by omega)⟩))); (apply ol_val; exact rfl; first | (apply s_append_e; exact rfl; exact rfl; (focus ((repeat constructor); done)); exact el_22; exact sz_5; exact zb_5; exact rfl; exact by_5; (first | exact (fun _ => rfl) | (intro _; exact (show base (some qb) Ab = _ from rfl))); (first | (apply RdN.own; (focus ((repeat constructor); done)); (focus ((repeat (first | exact rfl | constructor)); done))) | (apply RdN.own; (focus ((repeat constructor); done)); exact getNK_row)); (first | exact rfl | exact flatK_ones); (first | omega | (simp; omega) | (simp; done)); (first | omega | (simp; omega) | (simp; done)); intro rk26 sk26 ck26 ok26) | (apply s_append_r; exact rfl; exact rfl; (focus ((repeat constructor); done)); (first | exact rfl | exact (List.append_nil _).symm); exact el_22; exact sz_5; exact zb_5; exact rfl; exact by_5; (first | exact SO.nil _ | assumption | (exact ⟨by simp, by simp, Nat.le_refl _, by simp⟩)); (first | exact (fun _ => rfl) | (intro _; exact (show base (some qb) Ab = _ from rfl))); (first | (apply RdN.own; (focus ((repeat constructor); done)); (focus ((repeat (first | exact rfl | constructor)); done))) | (apply RdN.own; (focus ((repeat constructor); done)); exact getNK_row)); (first | exact rfl | exact flatK_ones); (first | omega | (simp; omega) | (simp; done)); (first | omega | (simp; omega) | (simp; done)); intro rk26 sk26 ck26 ok26) | (apply s_append_b; exact rfl; exact rfl; (focus ((repeat constructor); done)); (first | exact rfl | exact (List.append_nil _).symm); exact el_22; exact sz_5; exact zb_5; exact rfl; exact by_5; (first | exact SO.nil _ | assumption | (exact ⟨by simp, by simp, Nat.le_refl _, by simp⟩)); (first | exact (fun _ => rfl) | (intro _; exact (show base (some qb) Ab = _ from rfl))); (first | (apply RdN.own; (focus ((repeat constructor); done)); (focus ((repeat (first | exact rfl | constructor)); done))) | (apply RdN.own; (focus ((repeat constructor); done)); exact getNK_row)); (first | exact rfl | exact flatK_ones); (first | omega | (simp; omega) | (simp; done)); (first | omega | (simp; omega) | (simp; done)); intro rk26 sk26 ck26 ok26) | (apply s_append_n; exact rfl; exact rfl; (focus ((repeat constructor); done)); exact el_22; exact sz_5; exact zb_5; exact rfl; exact by_5; (first | exact (fun _ => rfl) | (intro _; exact (show base (some qb) Ab = _ from rfl))); (first | (apply RdN.own; (focus ((repeat constructor); done)); (focus ((repeat (first | exact rfl | constructor)); done))) | (apply RdN.own; (focus ((repeat constructor); done)); exact getNK_row)); (first | exact rfl | exact flatK_ones); (first | omega | (simp; omega) | (simp; done)); (first | omega | (simp; omega) | (simp; done)); intro rk26 sk26 ck26 ok26)); (apply ol_as; exact rfl; exact rfl); (apply ol_nil))
      | (refine cw_region_id 5 ?_; (apply ol_ldN; exact rfl; exact rfl; exact rfl; exact sz_75; (first | (apply RdN.own; (focus ((repeat constructor); done)); (apply getNK_all; (first | assumption | (rw [List.length_replicate]) | exact rfl))) | (apply RdN.view; exact hL.s))); (apply ol_val; exact rfl; apply s_allocK; exact zk_75; intro bk4); (apply ol_eff; apply s_storeK; exact rfl; exact rfl; exact sz_75; (focus ((repeat constructor); done)); (first | assumption | (rw [List.length_replicate]) | exact rfl); (first | assumption | (rw [List.length_replicate]) | exact rfl)); (apply ol_nil))
      | (apply cw_cond_true; exact rfl; (first | exact rfl | assumption))
      | (apply cw_cond_false; exact rfl; (first | exact rfl | assumption))
      | apply cw_skip
      | apply cw_ret
      | apply cw_block
      | apply cw_exit
    have hpl : (pad p).length = p.length + 1 + zer p.length + B.length := by omega
    have he2 : flat (eK .u8) (pad p) = flat (eK .u8) (padN p (zer p.length)) ++ flat (eK .u8) B := by rw [he, flat_append]
    rw [← hpl] at ok26 ⊢
    rw [← he2] at ok26 ⊢
    unfold sha
    generalize pad p = P at *
    obtain ⟨q, rfl⟩ : ∃ q, rk26 = some q := ⟨_, some_ref ok26 (by omega)⟩
    have hcap : P.length ≤ ck26 := ok26.hle
    clear he he2 hpl hb8 hcount ok26 so
    refine cw_loopK (σ := BSt) [2, 4] (by (repeat (first | exact Keep.nil | (apply Keep.cons; exact rfl)))) (fun s => [(3, .slice s.A (P.length - 64 * s.n) (ck26 - 64 * s.n))]) (fun _ => M) (fun s => [⟨some q, flat (eK .u8) P ++ sk26, 5⟩, ⟨some bk4, flat (eK .u32) (blocks P s.n).l, 75⟩, ⟨some bk2, flat (eK .u8) (List.replicate 32 0), 67⟩]) (fun s => 64 * s.n ≤ P.length ∧ (64 * s.n < P.length → s.A = some ⟨q, 64 * s.n, none⟩)) (fun s => P.length - 64 * s.n) ⟨0, some ⟨q, 0, none⟩⟩ (by (repeat (first | exact trivial | refine And.intro rfl ?_))) (View.le.refl _) (by (repeat (first | exact Pick.nil | (apply Pick.cons; (focus ((repeat (first | exact Spl.here | apply Spl.there)); done))) | exact Pick.refl))) ⟨by dsimp only; omega, fun _ => rfl⟩ ?_
    rintro ⟨m, A⟩ ⟨h1, h2⟩
    dsimp only at h1 h2
    dsimp only
    by_cases hm : 64 * m < P.length
    · obtain rfl := h2 hm
      have hst : blocks P (m + 1) = block (blocks P m) ((P.drop (64 * m)).take 64) := rfl
      have hpl : ((P.drop (64 * m)).take 64).length = 64 := by simp; omega
      have hsl : slicedA (some ⟨q, 64 * m, none⟩) 0 (ck26 - 64 * m) 1 = some ⟨q, 64 * m, none⟩ := slicedA_zero
      repeat' first
        | apply cw_seq
        | (refine cw_region_id 6 ?_; (apply ol_mv; exact rfl; exact rfl); (apply ol_val; exact rfl; apply stp_pur; apply s_len; exact rfl; exact el_22); (apply ol_val; exact rfl; apply stp_cmp; apply s_gtr; exact rfl; exact rfl; all_goals (intro hc30; try (exfalso; (first | exact hc30 rfl | omega)))); all_goals (apply ol_nil))
        | (refine cw_draw (id := 8) 4 (.mv 0 (.mv 1 (.mv 2 (.fx 3 (PT.nil))))) mixed (by kernel_rfl) ?_; (apply od_mv; exact rfl; exact rfl; apply s_loadN; exact rfl; exact rfl; exact sz_75; (apply RdN.own; (focus ((repeat constructor); done)); (apply getNK_all; (first | assumption | (rw [List.length_replicate]) | exact rfl)))); (apply od_mv; exact rfl; exact rfl; apply s_move; exact rfl); (apply od_mv; exact rfl; exact rfl; apply s_slice; exact rfl; exact el_22; exact sz_5; exact rfl; exact (show bnd _ _ _ 64 from Exists.intro _ rfl); exact rfl; (intro h; first | exact rfl | cases h); (first | omega | (simp; omega) | (simp; done)); (first | omega | (simp; omega) | (simp; done)); (first | omega | (simp; omega) | (simp; done))); (apply od_fx; (first | exact Wk.refl _ _ | (focus (apply Wk.mk; exact View.le.refl _; (repeat constructor); done))); (apply fx_val; exact rfl; exact rfl; apply s_callv; exact rfl; exact gf_47; (intro w' hw'; exact mix_spec (View.le.refl (View.of w')) (hL.mono hw'.le) (blocks P m) hpl rfl (by omega) (hbp.part _ _) (b := q) (o := 64 * m) (by rw [hsl]; exact SlA.part (hw'.ok_ (by (repeat (first | exact Has.here | apply Has.there)))) _ _)))); (apply od_nil; (first | exact Wk.refl _ _ | (focus (apply Wk.mk; exact View.le.refl _; (repeat constructor); done)))); (apply ol_eff; apply s_storeK; exact rfl; exact rfl; exact sz_75; (focus ((repeat constructor); done)); (first | assumption | (rw [List.length_replicate]) | exact rfl); (first | assumption | (rw [List.length_replicate]) | exact rfl)); (apply ol_nil))
        | (refine cw_region_id 7 ?_; (apply ol_mv; exact rfl; exact rfl); (apply ol_val; exact rfl; apply stp_pur; apply s_slice; exact rfl; exact el_22; exact sz_5; exact (show bnd _ _ _ 64 from Exists.intro _ rfl); exact rfl; exact rfl; (intro h; first | exact rfl | cases h); (first | omega | (simp; omega) | (simp; done)); (first | omega | (simp; omega) | (simp; done)); (first | omega | (simp; omega) | (simp; done))); (apply ol_as; exact rfl; exact rfl); (apply ol_nil))
        | (refine cw_region_id 9 ?_; (apply ol_val; exact rfl; apply s_allocK; exact zk_67; intro bk5); (apply ol_nil))
        | (refine cw_region_id 10 ?_; (apply ol_ldN; exact rfl; exact rfl; exact rfl; exact sz_75; (apply RdN.own; (focus ((repeat constructor); done)); (apply getNK_all; (first | assumption | (rw [List.length_replicate]) | exact rfl)))); (apply ol_mv; exact rfl; exact rfl); (apply ol_nil))
        | (apply cw_cond_true; exact rfl; (first | exact rfl | assumption))
        | (apply cw_cond_false; exact rfl; (first | exact rfl | assumption))
        | apply cw_skip
        | apply cw_ret
        | apply cw_block
        | apply cw_exit
      refine ⟨⟨m + 1, slicedA (some ⟨q, 64 * m, none⟩) 64 (ck26 - 64 * m) 1⟩, ⟨?_, View.le.refl _, ?_, ⟨by dsimp only; omega, ?_⟩, by dsimp only; omega⟩⟩
      · dsimp only
        rw [show P.length - 64 * (m + 1) = P.length - 64 * m - 64 by omega, show ck26 - 64 * (m + 1) = ck26 - 64 * m - 64 by omega]
        (repeat (first | exact trivial | refine And.intro rfl ?_))
      · dsimp only
        rw [hst]
        (repeat (first | exact Pick.nil | (apply Pick.cons; (focus ((repeat (first | exact Spl.here | apply Spl.there)); done))) | exact Pick.refl))
      · dsimp only
        intro h
        rw [slicedA_some (by omega)]
        rfl
    · have hmm : P.length / 64 = m := by omega
      rw [hmm]
      generalize blocks P m = S at *
      repeat' first
        | apply cw_seq
        | (refine cw_region_id 6 ?_; (apply ol_mv; exact rfl; exact rfl); (apply ol_val; exact rfl; apply stp_pur; apply s_len; exact rfl; exact el_22); (apply ol_val; exact rfl; apply stp_cmp; apply s_gtr; exact rfl; exact rfl; all_goals (intro hc30; try (exfalso; (first | exact hc30 rfl | omega)))); all_goals (apply ol_nil))
        | (refine cw_draw (id := 8) 4 (.mv 0 (.mv 1 (.mv 2 (.fx 3 (PT.nil))))) mixed (by kernel_rfl) ?_; (apply od_mv; exact rfl; exact rfl; apply s_loadN; exact rfl; exact rfl; exact sz_75; (apply RdN.own; (focus ((repeat constructor); done)); (apply getNK_all; (first | assumption | (rw [List.length_replicate]) | exact rfl)))); (apply od_mv; exact rfl; exact rfl; apply s_move; exact rfl); (apply od_mv; exact rfl; exact rfl; apply s_slice; exact rfl; exact el_22; exact sz_5; exact rfl; exact (show bnd _ _ _ 64 from Exists.intro _ rfl); exact rfl; (intro h; first | exact rfl | cases h); (first | omega | (simp; omega) | (simp; done)); (first | omega | (simp; omega) | (simp; done)); (first | omega | (simp; omega) | (simp; done))))
        | (refine cw_region_id 7 ?_; (apply ol_mv; exact rfl; exact rfl); (apply ol_val; exact rfl; apply stp_pur; apply s_slice; exact rfl; exact el_22; exact sz_5; exact (show bnd _ _ _ 64 from Exists.intro _ rfl); exact rfl; exact rfl; (intro h; first | exact rfl | cases h); (first | omega | (simp; omega) | (simp; done)); (first | omega | (simp; omega) | (simp; done)); (first | omega | (simp; omega) | (simp; done))); (apply ol_as; exact rfl; exact rfl); (apply ol_nil))
        | (refine cw_region_id 9 ?_; (apply ol_val; exact rfl; apply s_allocK; exact zk_67; intro bk5); (apply ol_nil))
        | (refine cw_region_id 10 ?_; (apply ol_ldN; exact rfl; exact rfl; exact rfl; exact sz_75; (apply RdN.own; (focus ((repeat constructor); done)); (apply getNK_all; (first | assumption | (rw [List.length_replicate]) | exact rfl)))); (apply ol_mv; exact rfl; exact rfl); (apply ol_nil))
        | (apply cw_cond_true; exact rfl; (first | exact rfl | assumption))
        | (apply cw_cond_false; exact rfl; (first | exact rfl | assumption))
        | apply cw_skip
        | apply cw_ret
        | apply cw_block
        | apply cw_exit
      refine cw_loopK (σ := Nat) [2, 5, 37] (by (repeat (first | exact Keep.nil | (apply Keep.cons; exact rfl)))) (fun i => [(38, .int .i64 i)]) (fun _ => M) (fun i => [⟨some bk5, flat (eK .u8) (oA S (4 * i)), 67⟩, ⟨some bk2, flat (eK .u8) (List.replicate 32 0), 67⟩]) (fun i => i ≤ 8) (fun i => 8 - i) 0 (by (repeat (first | exact trivial | refine And.intro rfl ?_))) (View.le.refl _) (by (repeat (first | exact Pick.nil | (apply Pick.cons; (focus ((repeat (first | exact Spl.here | apply Spl.there)); done))) | exact Pick.refl))) (by omega) ?_
      clear h1 h2 hm hmm
      intro i hi
      try dsimp only
      by_cases hi' : i < 8
      ·
        repeat' first
          | apply cw_seq
          | (refine cw_region_id 11 ?_; (apply ol_val; exact rfl; apply stp_cmp; apply s_lss; exact rfl; exact rfl; all_goals (intro hc39; try (exfalso; (first | exact hc39 rfl | omega)))); all_goals (apply ol_nil))
          | (refine cw_region_id 12 ?_; (apply ol_mv; exact rfl; exact rfl); (apply ol_val; exact rfl; apply stp_pur; first | (apply s_indexVK; exact rfl; exact rfl; exact ar_75; exact sz_74; exact rfl; (first | omega | (simp; omega) | (simp; done)); omega) | (apply s_indexVK; exact rfl; exact rfl; exact ar_75; exact sz_74; exact rfl; exact rfl; omega)); (apply ol_as; exact rfl; exact rfl); (apply ol_as; exact rfl; exact rfl); (apply ol_nil))
          | (refine cw_region_id 13 ?_; (apply ol_mv; exact rfl; exact rfl); (apply ol_nil))
          | (refine cw_region_id 19 ?_; (apply ol_ldN; exact rfl; exact rfl; exact rfl; exact sz_67; (apply RdN.own; (focus ((repeat constructor); done)); (apply getNK_all; (first | assumption | (rw [List.length_replicate]))))); (apply ol_eff; apply s_storeK; exact rfl; exact rfl; exact sz_67; (focus ((repeat constructor); done)); (first | assumption | (rw [List.length_replicate])); (first | assumption | (rw [List.length_replicate]))); (apply ol_nil))
          | (apply cw_cond_true; exact rfl; (first | exact rfl | assumption))
          | (apply cw_cond_false; exact rfl; (first | exact rfl | assumption))
          | apply cw_skip
          | apply cw_ret
          | apply cw_block
          | apply cw_exit
        refine cw_loopK (σ := Nat) [2, 5, 6, 7, 37, 38] (by (repeat (first | exact Keep.nil | (apply Keep.cons; exact rfl)))) (fun k => [(42, .int .i64 k)]) (fun _ => M) (fun k => [⟨some bk5, flat (eK .u8) (oA S (4 * i + k)), 67⟩, ⟨some bk2, flat (eK .u8) (List.replicate 32 0), 67⟩]) (fun k => k ≤ 4) (fun k => 4 - k) 0 (by (repeat (first | exact trivial | refine And.intro rfl ?_))) (View.le.refl _) (by (repeat (first | exact Pick.nil | (apply Pick.cons; (focus ((repeat (first | exact Spl.here | apply Spl.there)); done))) | exact Pick.refl))) (by omega) ?_
        intro k hk
        try dsimp only
        by_cases hk' : k < 4
        · have hst := oA_step (S := S) hi' hk'
          have hol := oA_length (S := S) (m := 4 * i + k) (by omega)
          generalize oA S (4 * i + k) = O at *
          repeat' first
            | apply cw_seq
            | (refine cw_region_id 14 ?_; (apply ol_val; exact rfl; apply stp_cmp; apply s_lss; exact rfl; exact rfl; all_goals (intro hc43; try (exfalso; (first | exact hc43 rfl | omega)))); all_goals (apply ol_nil))
            | (refine cw_region_id 15 ?_; (apply ol_mv; exact rfl; exact rfl); (apply ol_as; exact rfl; exact rfl); (apply ol_nil))
            | (refine cw_region_id 16 ?_; (apply ol_mv; exact rfl; exact rfl); (apply ol_val; exact rfl; apply stp_pur; apply s_mul64; exact rfl; exact rfl; omega); (apply ol_mv; exact rfl; exact rfl); (apply ol_val; exact rfl; apply stp_pur; apply s_add64; exact rfl; exact rfl; omega); (apply ol_mv; exact rfl; exact rfl); (apply ol_mv; exact rfl; exact rfl); (apply ol_val; exact rfl; apply stp_pur; apply s_mul64; exact rfl; exact rfl; omega); (apply ol_val; exact rfl; apply stp_pur; apply s_sub64; exact rfl; exact rfl; omega); (apply ol_val; exact rfl; apply stp_pur; apply s_shr; exact rfl; exact rfl; (first | decide | omega | (simp [IntKind.bits]; omega) | (simp [IntKind.bits]; done))); (apply ol_val; exact rfl; apply stp_pur; first | (apply s_conv; exact rfl; exact rfl; exact ti_5; (focus (apply wrap_u8; omega))) | (apply s_conv; exact rfl; exact rfl; exact ti_5; exact rfl)); (apply ol_val; exact rfl; apply stp_pur; first | (apply s_indexAK; exact rfl; exact rfl; exact ar_67; exact sz_5; omega) | (apply s_indexAO; exact rfl; exact rfl; exact ar_67; exact sz_5; omega)); (apply ol_eff; apply s_store1; exact rfl; exact rfl; exact sz_5; exact rfl; (focus ((repeat constructor); done)); (first | (focus ((repeat constructor); done)) | (apply setAt_ints_app; (first | omega | (simp; omega) | (simp; done))) | (apply setAt_ints; (first | omega | (simp; omega) | (simp; done))) | (apply setAtK0; omega) | (apply SetAt.set; (first | omega | (simp; omega) | (simp; done))))); (apply ol_nil))
            | (refine cw_region_id 17 ?_; (apply ol_val; exact rfl; apply stp_pur; apply s_add64; exact rfl; exact rfl; omega); (apply ol_mv; exact rfl; exact rfl); (apply ol_nil))
            | (refine cw_region_id 18 ?_; (apply ol_val; exact rfl; apply stp_pur; apply s_add64; exact rfl; exact rfl; omega); (apply ol_mv; exact rfl; exact rfl); (apply ol_nil))
            | (apply cw_cond_true; exact rfl; (first | exact rfl | assumption))
            | (apply cw_cond_false; exact rfl; (first | exact rfl | assumption))
            | apply cw_skip
            | apply cw_ret
            | apply cw_block
            | apply cw_exit
          refine ⟨k + 1, ⟨by (repeat (first | exact trivial | refine And.intro rfl ?_)), View.le.refl _, ?_, hk', by omega⟩⟩
          rw [hst]
          (repeat (first | exact Pick.nil | (apply Pick.cons; (focus ((repeat (first | exact Spl.here | apply Spl.there)); done))) | exact Pick.refl))
        · have : k = 4 := by omega
          subst this
          repeat' first
            | apply cw_seq
            | (refine cw_region_id 14 ?_; (apply ol_val; exact rfl; apply stp_cmp; apply s_lss; exact rfl; exact rfl; all_goals (intro hc43; try (exfalso; (first | exact hc43 rfl | omega)))); all_goals (apply ol_nil))
            | (refine cw_region_id 15 ?_; (apply ol_mv; exact rfl; exact rfl); (apply ol_as; exact rfl; exact rfl); (apply ol_nil))
            | (refine cw_region_id 16 ?_; (apply ol_mv; exact rfl; exact rfl); (apply ol_val; exact rfl; apply stp_pur; apply s_mul64; exact rfl; exact rfl; omega); (apply ol_mv; exact rfl; exact rfl); (apply ol_val; exact rfl; apply stp_pur; apply s_add64; exact rfl; exact rfl; omega); (apply ol_mv; exact rfl; exact rfl); (apply ol_mv; exact rfl; exact rfl); (apply ol_val; exact rfl; apply stp_pur; apply s_mul64; exact rfl; exact rfl; omega); (apply ol_val; exact rfl; apply stp_pur; apply s_sub64; exact rfl; exact rfl; omega); (apply ol_val; exact rfl; apply stp_pur; apply s_shr; exact rfl; exact rfl; (first | decide | omega | (simp [IntKind.bits]; omega) | (simp [IntKind.bits]; done))); (apply ol_val; exact rfl; apply stp_pur; first | (apply s_conv; exact rfl; exact rfl; exact ti_5; (focus (apply wrap_u8; omega))) | (apply s_conv; exact rfl; exact rfl; exact ti_5; exact rfl)); (apply ol_val; exact rfl; apply stp_pur; first | (apply s_indexAK; exact rfl; exact rfl; exact ar_67; exact sz_5; omega) | (apply s_indexAO; exact rfl; exact rfl; exact ar_67; exact sz_5; omega)); (apply ol_eff; apply s_store1; exact rfl; exact rfl; exact sz_5; exact rfl; (focus ((repeat constructor); done)); (first | (focus ((repeat constructor); done)) | (apply setAt_ints_app; (first | omega | (simp; omega) | (simp; done))) | (apply setAt_ints; (first | omega | (simp; omega) | (simp; done))) | (apply SetAt.set; (first | omega | (simp; omega) | (simp; done))))); (apply ol_nil))
            | (refine cw_region_id 17 ?_; (apply ol_val; exact rfl; apply stp_pur; apply s_add64; exact rfl; exact rfl; omega); (apply ol_mv; exact rfl; exact rfl); (apply ol_nil))
            | (refine cw_region_id 18 ?_; (apply ol_val; exact rfl; apply stp_pur; apply s_add64; exact rfl; exact rfl; omega); (apply ol_mv; exact rfl; exact rfl); (apply ol_nil))
            | (apply cw_cond_true; exact rfl; (first | exact rfl | assumption))
            | (apply cw_cond_false; exact rfl; (first | exact rfl | assumption))
            | apply cw_skip
            | apply cw_ret
            | apply cw_block
            | apply cw_exit
          exact ⟨i + 1, ⟨by (repeat (first | exact trivial | refine And.intro rfl ?_)), View.le.refl _, by (repeat (first | exact Pick.nil | (apply Pick.cons; (focus ((repeat (first | exact Spl.here | apply Spl.there)); done))) | exact Pick.refl)), hi', by omega⟩⟩
      · have : i = 8 := by omega
        subst this
        have hol := oA_length (S := S) (m := 4 * 8) (by omega)
        have e : oA S (4 * 8) = outB S := oA_all S
        rw [e] at hol ⊢
        clear e
        generalize outB S = O at *
        repeat' first
          | apply cw_seq
          | (refine cw_region_id 11 ?_; (apply ol_val; exact rfl; apply stp_cmp; apply s_lss; exact rfl; exact rfl; all_goals (intro hc39; try (exfalso; (first | exact hc39 rfl | omega)))); all_goals (apply ol_nil))
          | (refine cw_region_id 12 ?_; (apply ol_mv; exact rfl; exact rfl); (apply ol_val; exact rfl; apply stp_pur; apply s_indexVK; exact rfl; exact rfl; exact ar_75; exact sz_74; exact rfl; (first | omega | (simp; omega) | (simp; done)); omega); (apply ol_as; exact rfl; exact rfl); (apply ol_as; exact rfl; exact rfl); (apply ol_nil))
          | (refine cw_region_id 13 ?_; (apply ol_mv; exact rfl; exact rfl); (apply ol_nil))
          | (refine cw_region_id 19 ?_; (apply ol_ldN; exact rfl; exact rfl; exact rfl; exact sz_67; (apply RdN.own; (focus ((repeat constructor); done)); (apply getNK_all; (first | assumption | (rw [List.length_replicate]))))); (apply ol_eff; apply s_storeK; exact rfl; exact rfl; exact sz_67; (focus ((repeat constructor); done)); (first | assumption | (rw [List.length_replicate])); (first | assumption | (rw [List.length_replicate]))); (apply ol_nil))
          | (apply cw_cond_true; exact rfl; (first | exact rfl | assumption))
          | (apply cw_cond_false; exact rfl; (first | exact rfl | assumption))
          | apply cw_skip
          | apply cw_ret
          | apply cw_block
          | apply cw_exit
        refine ends [] (RVal.cellN rfl rfl rfl (RdN.own (by (repeat (first | exact Has.here | apply Has.there))) (getNK_all hol)) RVal.nil) Pick.nil ?_
        rfl
end Go.Proofs.YtelidojkpbaofaaDoor
