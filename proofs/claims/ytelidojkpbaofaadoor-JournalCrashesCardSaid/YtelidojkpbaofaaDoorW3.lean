/-
  The walks of the words of a block.
-/
import Derived.Test.YtelidojkpbaofaaDoorW2
namespace Go.Proofs.YtelidojkpbaofaaDoor
set_option maxRecDepth 20000
set_option linter.unusedSimpArgs false
set_option linter.unusedVariables false
open Go Go.Fw
attribute [local irreducible] CW OL OD FX Stp FnC Ret
set_option maxHeartbeats 800000

def isB (p : List Int) : Prop := ∀ i, 0 ≤ p.getD i 0 ∧ p.getD i 0 ≤ 255
theorem SlA.getK {M : View} {k : IntKind} {a : Option Addr} {p : List Int} {b o : Nat} (s : SlA M (eK k) 1 a p b o) {i : Nat} (h : i < p.length) : GetN (M.cell b) (o + i * 1) 1 [.int k (p.getD i 0)] := by
  have := s.cells i h
  rw [show p.getD i 0 = p[i] by simp [List.getD, List.getElem?_eq_getElem h]]
  exact this

def wA (p : List Int) (i k : Nat) : List Int := words p i ++ [wordN p i k] ++ List.replicate (63 - i) 0
theorem wA_length {p : List Int} {i k : Nat} (h : i < 16) : (wA p i k).length = 64 := by simp [wA, words_length]; omega
theorem wA_get {p : List Int} {i k : Nat} : (wA p i k).getD i 0 = wordN p i k := by
  simp [wA, List.getD, words_length]
theorem wA_set {p : List Int} {i k : Nat} (v : Int) : (wA p i k).set i v = words p i ++ [v] ++ List.replicate (63 - i) 0 := by
  have h := words_length p i
  simp only [wA, List.append_assoc]
  rw [List.set_append_right _ _ (by omega), h, Nat.sub_self]
  rfl
theorem wA_zero {p : List Int} {i : Nat} (h : i < 16) : words p i ++ List.replicate (64 - i) 0 = wA p i 0 := by
  unfold wA
  rw [show 64 - i = (63 - i) + 1 by omega, List.replicate_succ, List.append_assoc]
  rfl
theorem wA_four {p : List Int} {i : Nat} (h : i < 16) : wA p i 4 = words p (i + 1) ++ List.replicate (64 - (i + 1)) 0 := by
  unfold wA
  rw [show 64 - (i + 1) = 63 - i by omega]
  rfl
def sA (p : List Int) (k : Nat) : List Int := sched (words p 16) k ++ List.replicate (48 - k) 0
theorem sched_len (p : List Int) (k : Nat) : (sched (words p 16) k).length = 16 + k := by rw [sched_length, words_length]
theorem sA_length {p : List Int} {k : Nat} (h : k ≤ 48) : (sA p k).length = 64 := by simp [sA, sched_len]; omega
theorem getD_left {A B : List Int} {i : Nat} (h : i < A.length) : (A ++ B).getD i 0 = A.getD i 0 := by
  simp [List.getD, List.getElem?_append_left h]
theorem sA_get {p : List Int} {k : Nat} {j : Int} (h : 0 ≤ j ∧ j < 16 + k) : (sA p k).getD j.toNat 0 = (sched (words p 16) k).getD j.toNat 0 := getD_left (by rw [sched_len]; omega)
theorem next_eq (p : List Int) (k : Nat) {V : List Int} (hV : ∀ j : Int, 0 ≤ j ∧ j < 16 + k → V.getD j.toNat 0 = (sched (words p 16) k).getD j.toNat 0) :
    nextW (sched (words p 16) k) = wr (wr (wr (V.getD (((16 + k : Nat) : Int) - 16).toNat 0 + sg0 (V.getD (((16 + k : Nat) : Int) - 15).toNat 0)) + V.getD (((16 + k : Nat) : Int) - 7).toNat 0) + sg1 (V.getD (((16 + k : Nat) : Int) - 2).toNat 0)) := by
  rw [hV _ (by omega), hV _ (by omega), hV _ (by omega), hV _ (by omega)]
  unfold nextW
  rw [sched_len, show (((16 + k : Nat) : Int) - 16).toNat = 16 + k - 16 by omega, show (((16 + k : Nat) : Int) - 15).toNat = 16 + k - 15 by omega, show (((16 + k : Nat) : Int) - 7).toNat = 16 + k - 7 by omega, show (((16 + k : Nat) : Int) - 2).toNat = 16 + k - 2 by omega]
theorem sA_succ (p : List Int) {k : Nat} (hk : k < 48) : sA p (k + 1) = (sA p k).set (16 + k) (nextW (sched (words p 16) k)) := by
  unfold sA
  rw [set_fill (sched_len p k) (by omega), show 48 - k - 1 = 48 - (k + 1) by omega]
  rfl

theorem schedule_spec {M : View} {w : World} (hM : View.le M (View.of w)) {p : List Int} {n c : Nat} (hn : p.length = n) (h64 : n = 64) (hc : 64 ≤ c) (hb : isB p) {a : Option Addr} {b o : Nat} (s : SlA M (eK .u8) 1 a p b o) :
    FnC Tryd.prog 54 [.slice a n c] w (fun v _ => v = .agg (flat (eK .u32) (sched (words p 16) 48)).toArray) := by
  subst hn
  refine enterF (M := M) Tryd.func54 rfl rfl rfl rfl hM ?_
  repeat' first
    | apply cw_seq
    | (refine cw_region_id 0 ?_; (apply ol_val; exact rfl; apply s_allocK; exact zk_82; intro bk2); (apply ol_nil))
    | (refine cw_region_id 1 ?_; (apply ol_val; exact rfl; apply s_allocK; exact zk_82; intro bk3); (apply ol_nil))
    | (refine cw_region_id 2 ?_; (apply ol_mv; exact rfl; exact rfl); (apply ol_nil))
    | (apply cw_cond_true; exact rfl; (first | exact rfl | assumption))
    | (apply cw_cond_false; exact rfl; (first | exact rfl | assumption))
    | apply cw_skip
    | apply cw_ret
    | apply cw_block
    | apply cw_exit
  refine cw_loopK (σ := Nat) [0, 2, 3] (by (repeat (first | exact Keep.nil | (apply Keep.cons; exact rfl)))) (fun i => [(12, .int .i64 i)]) (fun _ => M) (fun i => [⟨some bk3, flat (eK .u32) (words p i ++ List.replicate (64 - i) 0), 82⟩, ⟨some bk2, flat (eK .u32) (List.replicate 64 0), 82⟩]) (fun i => i ≤ 16) (fun i => 16 - i) 0 (by (repeat (first | exact trivial | refine And.intro rfl ?_))) (View.le.refl _) (by (repeat (first | exact Pick.nil | (apply Pick.cons; (focus ((repeat (first | exact Spl.here | apply Spl.there)); done))) | exact Pick.refl))) (by omega) ?_
  intro i hi
  try dsimp only
  by_cases hi' : i < 16
  · rw [wA_zero hi']
    have hsl : slicedA a (4 * i) c 1 = some ⟨b, o + 4 * i * 1, none⟩ := by rw [s.at_ (by omega), slicedA_some (by omega)]
    repeat' first
      | apply cw_seq
      | (refine cw_region_id 3 ?_; (apply ol_val; exact rfl; apply stp_cmp; apply s_lss; exact rfl; exact rfl; all_goals (intro hc13; try (exfalso; (first | exact hc13 rfl | omega)))); all_goals (apply ol_nil))
      | (refine cw_region_id 4 ?_; (apply ol_mv; exact rfl; exact rfl); (apply ol_as; exact rfl; exact rfl); (apply ol_nil))
      | (refine cw_region_id 5 ?_; (apply ol_mv; exact rfl; exact rfl); (apply ol_mv; exact rfl; exact rfl); (apply ol_val; exact rfl; apply stp_pur; apply s_mul64; exact rfl; exact rfl; omega); (apply ol_mv; exact rfl; exact rfl); (apply ol_val; exact rfl; apply stp_pur; apply s_mul64; exact rfl; exact rfl; omega); (apply ol_val; exact rfl; apply stp_pur; apply s_add64; exact rfl; exact rfl; omega); (apply ol_val; exact rfl; apply stp_pur; apply s_slice; exact rfl; exact el_22; exact sz_5; exact Exists.intro _ rfl; exact Exists.intro _ rfl; exact rfl; (intro h; first | exact rfl | cases h); (first | omega | (simp; omega) | (simp; done)); (first | omega | (simp; omega) | (simp; done)); (first | omega | (simp; omega) | (simp; done))); (apply ol_val; exact rfl; apply stp_pur; apply s_len; exact rfl; exact el_22); (apply ol_mv; exact rfl; exact rfl); (apply ol_nil))
      | (refine cw_region_id 11 ?_; (apply ol_as; exact rfl; exact rfl); (apply ol_nil))
      | (apply cw_cond_true; exact rfl; (first | exact rfl | assumption))
      | (apply cw_cond_false; exact rfl; (first | exact rfl | assumption))
      | apply cw_skip
      | apply cw_ret
      | apply cw_block
      | apply cw_exit
    refine cw_loopK (σ := Nat) [0, 2, 3, 4, 12, 21, 22] (by (repeat (first | exact Keep.nil | (apply Keep.cons; exact rfl)))) (fun k => [(23, .int .i64 k)]) (fun _ => M) (fun k => [⟨some bk3, flat (eK .u32) (wA p i k), 82⟩, ⟨some bk2, flat (eK .u32) (List.replicate 64 0), 82⟩]) (fun k => k ≤ 4) (fun k => 4 - k) 0 (by (repeat (first | exact trivial | refine And.intro rfl ?_))) (View.le.refl _) (by (repeat (first | exact Pick.nil | (apply Pick.cons; (focus ((repeat (first | exact Spl.here | apply Spl.there)); done))) | exact Pick.refl))) (by omega) ?_
    intro k hk
    try dsimp only
    by_cases hk' : k < 4
    · have hL := wA_length (p := p) (i := i) (k := k) hi'
      have hg := hb (4 * i + k)
      have hst : wA p i (k + 1) = (wA p i k).set i (Go.bits .or .u32 (wr ((wA p i k).getD i 0 * 2 ^ 8)) (p.getD (4 * i + k) 0)) := by
        rw [wA_set, wA_get, or_byte hg]
        rfl
      have hcell : GetN (M.cell b) (o + 4 * i * 1 + k * 1) 1 [.int .u8 (p.getD (4 * i + k) 0)] := by
        have := SlA.getK s (i := 4 * i + k) (by omega)
        rwa [show o + (4 * i + k) * 1 = o + 4 * i * 1 + k * 1 by omega] at this
      generalize wA p i k = L at *
      repeat' first
        | apply cw_seq
        | (refine cw_region_id 6 ?_; (apply ol_val; exact rfl; apply stp_cmp; apply s_lss; exact rfl; exact rfl; all_goals (intro hc24; try (exfalso; (first | exact hc24 rfl | omega)))); all_goals (apply ol_nil))
        | (refine cw_region_id 7 ?_; (apply ol_val; exact rfl; apply stp_pur; first | (apply s_indexK; exact rfl; exact rfl; exact el_22; exact sz_5; (first | exact rfl | exact hsl); omega) | (apply s_indexO; exact rfl; exact rfl; exact el_22; exact sz_5; (first | exact rfl | exact hsl); omega)); (apply ol_ld; exact rfl; exact rfl; exact rfl; (first | (apply RdN.own; (focus ((repeat constructor); done)); (first | exact GetN.cons rfl GetN.nil | (apply getN_ints_app; (first | omega | (simp; omega) | (simp; done))) | (apply getN_ints; (first | omega | (simp; omega) | (simp; done))))) | (apply RdN.view; exact hcell) | (apply RdN.own; (focus ((repeat constructor); done)); (apply getNK0; omega)))); (apply ol_as; exact rfl; exact rfl); (apply ol_nil))
        | (refine cw_region_id 8 ?_; (apply ol_mv; exact rfl; exact rfl); (apply ol_mv; exact rfl; exact rfl); (apply ol_val; exact rfl; apply stp_pur; first | (apply s_indexAK; exact rfl; exact rfl; exact ar_82; exact sz_74; omega) | (apply s_indexAO; exact rfl; exact rfl; exact ar_82; exact sz_74; omega)); (apply ol_ld; exact rfl; exact rfl; exact rfl; (first | (apply RdN.own; (focus ((repeat constructor); done)); (first | exact GetN.cons rfl GetN.nil | (apply getN_ints_app; (first | omega | (simp; omega) | (simp; done))) | (apply getN_ints; (first | omega | (simp; omega) | (simp; done))))) | (apply RdN.view; exact hcell) | (apply RdN.own; (focus ((repeat constructor); done)); (apply getNK0; omega)))); (apply ol_val; exact rfl; apply stp_pur; apply s_shlW; exact rfl; exact rfl; (first | decide | omega | (simp [IntKind.bits]; omega) | (simp [IntKind.bits]; done))); (apply ol_mv; exact rfl; exact rfl); (apply ol_val; exact rfl; apply stp_pur; first | (apply s_conv; exact rfl; exact rfl; exact ti_74; (focus (apply wrap_u32; omega))) | (apply s_conv; exact rfl; exact rfl; exact ti_74; exact rfl)); (apply ol_val; exact rfl; apply stp_pur; apply s_or; exact rfl; exact rfl); (apply ol_val; exact rfl; apply stp_pur; first | (apply s_indexAK; exact rfl; exact rfl; exact ar_82; exact sz_74; omega) | (apply s_indexAO; exact rfl; exact rfl; exact ar_82; exact sz_74; omega)); (apply ol_eff; apply s_store1; exact rfl; exact rfl; exact sz_74; exact rfl; (focus ((repeat constructor); done)); (first | (focus ((repeat constructor); done)) | (apply setAt_ints_app; (first | omega | (simp; omega) | (simp; done))) | (apply setAt_ints; (first | omega | (simp; omega) | (simp; done))) | (apply setAtK0; omega) | (apply SetAt.set; (first | omega | (simp; omega) | (simp; done))))); (apply ol_nil))
        | (refine cw_region_id 9 ?_; (apply ol_val; exact rfl; apply stp_pur; apply s_add64; exact rfl; exact rfl; omega); (apply ol_mv; exact rfl; exact rfl); (apply ol_nil))
        | (refine cw_region_id 10 ?_; (apply ol_val; exact rfl; apply stp_pur; apply s_add64; exact rfl; exact rfl; omega); (apply ol_mv; exact rfl; exact rfl); (apply ol_nil))
        | (apply cw_cond_true; exact rfl; (first | exact rfl | assumption))
        | (apply cw_cond_false; exact rfl; (first | exact rfl | assumption))
        | apply cw_skip
        | apply cw_ret
        | apply cw_block
        | apply cw_exit
      refine ⟨k + 1, ⟨by (repeat (first | exact trivial | refine And.intro rfl ?_)), View.le.refl _, ?_, hk', by omega⟩⟩
      rw [hst]
      (repeat (first | exact Pick.nil | (apply Pick.cons; (focus ((repeat (first | exact Spl.here | apply Spl.there)); done))) | exact Pick.refl))
    · have : k = 4 := by omega
      subst this
      repeat' first
        | apply cw_seq
        | (refine cw_region_id 6 ?_; (apply ol_val; exact rfl; apply stp_cmp; apply s_lss; exact rfl; exact rfl; all_goals (intro hc24; try (exfalso; (first | exact hc24 rfl | omega)))); all_goals (apply ol_nil))
        | (refine cw_region_id 7 ?_; (apply ol_val; exact rfl; apply stp_pur; first | (apply s_indexK; exact rfl; exact rfl; exact el_22; exact sz_5; (first | exact rfl); omega) | (apply s_indexO; exact rfl; exact rfl; exact el_22; exact sz_5; (first | exact rfl); omega)); (apply ol_ld; exact rfl; exact rfl; exact rfl; (apply RdN.own; (focus ((repeat constructor); done)); (first | exact GetN.cons rfl GetN.nil | (apply getN_ints_app; (first | omega | (simp; omega) | (simp; done))) | (apply getN_ints; (first | omega | (simp; omega) | (simp; done)))))); (apply ol_as; exact rfl; exact rfl); (apply ol_nil))
        | (refine cw_region_id 8 ?_; (apply ol_mv; exact rfl; exact rfl); (apply ol_mv; exact rfl; exact rfl); (apply ol_val; exact rfl; apply stp_pur; first | (apply s_indexAK; exact rfl; exact rfl; exact ar_82; exact sz_74; omega) | (apply s_indexAO; exact rfl; exact rfl; exact ar_82; exact sz_74; omega)); (apply ol_ld; exact rfl; exact rfl; exact rfl; (apply RdN.own; (focus ((repeat constructor); done)); (first | exact GetN.cons rfl GetN.nil | (apply getN_ints_app; (first | omega | (simp; omega) | (simp; done))) | (apply getN_ints; (first | omega | (simp; omega) | (simp; done)))))); (apply ol_val; exact rfl; apply stp_pur; apply s_shlW; exact rfl; exact rfl; (first | decide | omega | (simp [IntKind.bits]; omega) | (simp [IntKind.bits]; done))); (apply ol_mv; exact rfl; exact rfl); (apply ol_val; exact rfl; apply stp_pur; first | (apply s_conv; exact rfl; exact rfl; exact ti_74; (focus (apply wrap_u32; omega))) | (apply s_conv; exact rfl; exact rfl; exact ti_74; exact rfl)); (apply ol_val; exact rfl; apply stp_pur; apply s_or; exact rfl; exact rfl); (apply ol_val; exact rfl; apply stp_pur; first | (apply s_indexAK; exact rfl; exact rfl; exact ar_82; exact sz_74; omega) | (apply s_indexAO; exact rfl; exact rfl; exact ar_82; exact sz_74; omega)); (apply ol_eff; apply s_store1; exact rfl; exact rfl; exact sz_74; exact rfl; (focus ((repeat constructor); done)); (first | (focus ((repeat constructor); done)) | (apply setAt_ints_app; (first | omega | (simp; omega) | (simp; done))) | (apply setAt_ints; (first | omega | (simp; omega) | (simp; done))) | (apply SetAt.set; (first | omega | (simp; omega) | (simp; done))))); (apply ol_nil))
        | (refine cw_region_id 9 ?_; (apply ol_val; exact rfl; apply stp_pur; apply s_add64; exact rfl; exact rfl; omega); (apply ol_mv; exact rfl; exact rfl); (apply ol_nil))
        | (refine cw_region_id 10 ?_; (apply ol_val; exact rfl; apply stp_pur; apply s_add64; exact rfl; exact rfl; omega); (apply ol_mv; exact rfl; exact rfl); (apply ol_nil))
        | (apply cw_cond_true; exact rfl; (first | exact rfl | assumption))
        | (apply cw_cond_false; exact rfl; (first | exact rfl | assumption))
        | apply cw_skip
        | apply cw_ret
        | apply cw_block
        | apply cw_exit
      refine ⟨i + 1, ⟨by (repeat (first | exact trivial | refine And.intro rfl ?_)), View.le.refl _, ?_, hi', by omega⟩⟩
      rw [← wA_four hi']
      (repeat (first | exact Pick.nil | (apply Pick.cons; (focus ((repeat (first | exact Spl.here | apply Spl.there)); done))) | exact Pick.refl))
  · have : i = 16 := by omega
    subst this
    repeat' first
      | apply cw_seq
      | (refine cw_region_id 3 ?_; (apply ol_val; exact rfl; apply stp_cmp; apply s_lss; exact rfl; exact rfl; all_goals (intro hc13; try (exfalso; (first | exact hc13 rfl | omega)))); all_goals (apply ol_nil))
      | (refine cw_region_id 4 ?_; (apply ol_mv; exact rfl; exact rfl); (apply ol_as; exact rfl; exact rfl); (apply ol_nil))
      | (refine cw_region_id 5 ?_; (apply ol_mv; exact rfl; exact rfl); (apply ol_mv; exact rfl; exact rfl); (apply ol_val; exact rfl; apply stp_pur; apply s_mul64; exact rfl; exact rfl; omega); (apply ol_mv; exact rfl; exact rfl); (apply ol_val; exact rfl; apply stp_pur; apply s_mul64; exact rfl; exact rfl; omega); (apply ol_val; exact rfl; apply stp_pur; apply s_add64; exact rfl; exact rfl; omega); (apply ol_val; exact rfl; apply stp_pur; apply s_slice; exact rfl; exact el_22; exact sz_5; exact Exists.intro _ rfl; exact Exists.intro _ rfl; exact rfl; (intro h; first | exact rfl | cases h); (first | omega | (simp; omega) | (simp; done)); (first | omega | (simp; omega) | (simp; done)); (first | omega | (simp; omega) | (simp; done))); (apply ol_val; exact rfl; apply stp_pur; apply s_len; exact rfl; exact el_22); (apply ol_mv; exact rfl; exact rfl); (apply ol_nil))
      | (refine cw_region_id 11 ?_; (apply ol_as; exact rfl; exact rfl); (apply ol_nil))
      | (apply cw_cond_true; exact rfl; (first | exact rfl | assumption))
      | (apply cw_cond_false; exact rfl; (first | exact rfl | assumption))
      | apply cw_skip
      | apply cw_ret
      | apply cw_block
      | apply cw_exit
    refine cw_loopK (σ := Nat) [2, 3] (by (repeat (first | exact Keep.nil | (apply Keep.cons; exact rfl)))) (fun k => [(7, .int .i64 ((16 + k : Nat) : Int))]) (fun _ => M) (fun k => [⟨some bk3, flat (eK .u32) (sA p k), 82⟩, ⟨some bk2, flat (eK .u32) (List.replicate 64 0), 82⟩]) (fun k => k ≤ 48) (fun k => 48 - k) 0 (by (repeat (first | exact trivial | refine And.intro rfl ?_))) (View.le.refl _) (by (repeat (first | exact Pick.nil | (apply Pick.cons; (focus ((repeat (first | exact Spl.here | apply Spl.there)); done))) | exact Pick.refl))) (by omega) ?_
    intro k hk
    try dsimp only
    have hL := sA_length (p := p) hk
    by_cases hk' : k < 48
    · have hst := sA_succ p hk'
      rw [next_eq p k (V := sA p k) (fun j hj => sA_get hj)] at hst
      generalize sA p k = L at *
      repeat' first
        | apply cw_seq
        | (refine cw_region_id 12 ?_; (apply ol_mv; exact rfl; exact rfl); (apply ol_val; exact rfl; apply stp_cmp; apply s_lss; exact rfl; exact rfl; all_goals (intro hc39; try (exfalso; (first | exact hc39 rfl | omega)))); all_goals (apply ol_nil))
        | (refine cw_draw (id := 14) 10 (.mv 0 (.mv 1 (.mv 2 (.mv 3 (.mv 4 (.mv 5 (.mv 6 (.mv 7 (.mv 8 (.mv 9 (PT.nil))))))))))) mixed (by kernel_rfl) ?_; (apply od_mv; exact rfl; exact rfl; apply s_move; exact rfl); (apply od_mv; exact rfl; exact rfl; apply s_sub64; exact rfl; exact rfl; omega); (apply od_mv; exact rfl; exact rfl; first | (apply s_indexAK; exact rfl; exact rfl; exact ar_82; exact sz_74; omega) | (apply s_indexAO; exact rfl; exact rfl; exact ar_82; exact sz_74; omega)); (apply od_mv; exact rfl; exact rfl; apply s_load1; exact rfl; exact rfl; (first | (apply RdN.own; (focus ((repeat constructor); done)); (first | exact GetN.cons rfl GetN.nil | (apply getN_ints_app; (first | omega | (simp; omega) | (simp; done))) | (apply getN_ints; (first | omega | (simp; omega) | (simp; done))))) | (apply RdN.own; (focus ((repeat constructor); done)); (apply getNK0; omega)))); (apply od_mv; exact rfl; exact rfl; apply s_move; exact rfl); (apply od_mv; exact rfl; exact rfl; apply s_sub64; exact rfl; exact rfl; omega); (apply od_mv; exact rfl; exact rfl; first | (apply s_indexAK; exact rfl; exact rfl; exact ar_82; exact sz_74; omega) | (apply s_indexAO; exact rfl; exact rfl; exact ar_82; exact sz_74; omega)); (apply od_mv; exact rfl; exact rfl; apply s_load1; exact rfl; exact rfl; (first | (apply RdN.own; (focus ((repeat constructor); done)); (first | exact GetN.cons rfl GetN.nil | (apply getN_ints_app; (first | omega | (simp; omega) | (simp; done))) | (apply getN_ints; (first | omega | (simp; omega) | (simp; done))))) | (apply RdN.own; (focus ((repeat constructor); done)); (apply getNK0; omega)))); (apply od_mv; exact rfl; exact rfl; apply s_assign; exact rfl); (apply od_mv; exact rfl; exact rfl; apply s_assign; exact rfl); (apply od_nil; (first | exact Wk.refl _ _ | (focus (apply Wk.mk; exact View.le.refl _; (repeat constructor); done)))); (apply ol_nil))
        | (refine cw_region_id 15 ?_; (apply ol_mv; exact rfl; exact rfl); (apply ol_val; exact rfl; apply s_callv; exact rfl; exact gf_55; (intro w' hw'; exact right_spec w' _ _ (by decide))); (apply ol_mv; exact rfl; exact rfl); (apply ol_val; exact rfl; apply s_callv; exact rfl; exact gf_55; (intro w' hw'; exact right_spec w' _ _ (by decide))); (apply ol_val; exact rfl; apply stp_pur; apply s_xor; exact rfl; exact rfl); (apply ol_mv; exact rfl; exact rfl); (apply ol_val; exact rfl; apply stp_pur; apply s_shr; exact rfl; exact rfl; (first | decide | omega | (simp [IntKind.bits]; omega) | (simp [IntKind.bits]; done))); (apply ol_val; exact rfl; apply stp_pur; apply s_xor; exact rfl; exact rfl); (apply ol_as; exact rfl; exact rfl); (apply ol_nil))
        | (refine cw_region_id 16 ?_; (apply ol_mv; exact rfl; exact rfl); (apply ol_val; exact rfl; apply s_callv; exact rfl; exact gf_55; (intro w' hw'; exact right_spec w' _ _ (by decide))); (apply ol_mv; exact rfl; exact rfl); (apply ol_val; exact rfl; apply s_callv; exact rfl; exact gf_55; (intro w' hw'; exact right_spec w' _ _ (by decide))); (apply ol_val; exact rfl; apply stp_pur; apply s_xor; exact rfl; exact rfl); (apply ol_mv; exact rfl; exact rfl); (apply ol_val; exact rfl; apply stp_pur; apply s_shr; exact rfl; exact rfl; (first | decide | omega | (simp [IntKind.bits]; omega) | (simp [IntKind.bits]; done))); (apply ol_val; exact rfl; apply stp_pur; apply s_xor; exact rfl; exact rfl); (apply ol_as; exact rfl; exact rfl); (apply ol_nil))
        | (refine cw_draw (id := 17) 15 (.mv 0 (.mv 1 (.mv 2 (.mv 3 (.mv 4 (.mv 5 (.mv 6 (.mv 7 (.mv 8 (.mv 9 (.mv 10 (.mv 11 (.mv 12 (.mv 13 (.mv 14 (PT.nil)))))))))))))))) mixed (by kernel_rfl) ?_; (apply od_mv; exact rfl; exact rfl; apply s_move; exact rfl); (apply od_mv; exact rfl; exact rfl; apply s_move; exact rfl); (apply od_mv; exact rfl; exact rfl; apply s_sub64; exact rfl; exact rfl; omega); (apply od_mv; exact rfl; exact rfl; first | (apply s_indexAK; exact rfl; exact rfl; exact ar_82; exact sz_74; omega) | (apply s_indexAO; exact rfl; exact rfl; exact ar_82; exact sz_74; omega)); (apply od_mv; exact rfl; exact rfl; apply s_load1; exact rfl; exact rfl; (first | (apply RdN.own; (focus ((repeat constructor); done)); (first | exact GetN.cons rfl GetN.nil | (apply getN_ints_app; (first | omega | (simp; omega) | (simp; done))) | (apply getN_ints; (first | omega | (simp; omega) | (simp; done))))) | (apply RdN.own; (focus ((repeat constructor); done)); (apply getNK0; omega)))); (apply od_mv; exact rfl; exact rfl; apply s_move; exact rfl); (apply od_mv; exact rfl; exact rfl; apply s_addW; exact rfl; exact rfl); (apply od_mv; exact rfl; exact rfl; apply s_move; exact rfl); (apply od_mv; exact rfl; exact rfl; apply s_sub64; exact rfl; exact rfl; omega); (apply od_mv; exact rfl; exact rfl; first | (apply s_indexAK; exact rfl; exact rfl; exact ar_82; exact sz_74; omega) | (apply s_indexAO; exact rfl; exact rfl; exact ar_82; exact sz_74; omega)); (apply od_mv; exact rfl; exact rfl; apply s_load1; exact rfl; exact rfl; (first | (apply RdN.own; (focus ((repeat constructor); done)); (first | exact GetN.cons rfl GetN.nil | (apply getN_ints_app; (first | omega | (simp; omega) | (simp; done))) | (apply getN_ints; (first | omega | (simp; omega) | (simp; done))))) | (apply RdN.own; (focus ((repeat constructor); done)); (apply getNK0; omega)))); (apply od_mv; exact rfl; exact rfl; apply s_addW; exact rfl; exact rfl); (apply od_mv; exact rfl; exact rfl; apply s_move; exact rfl); (apply od_mv; exact rfl; exact rfl; apply s_addW; exact rfl; exact rfl); (apply od_mv; exact rfl; exact rfl; first | (apply s_indexAK; exact rfl; exact rfl; exact ar_82; exact sz_74; omega) | (apply s_indexAO; exact rfl; exact rfl; exact ar_82; exact sz_74; omega)); (apply od_nil; (first | exact Wk.refl _ _ | (focus (apply Wk.mk; exact View.le.refl _; (repeat constructor); done)))); (apply ol_eff; apply s_store1; exact rfl; exact rfl; exact sz_74; exact rfl; (focus ((repeat constructor); done)); (first | (focus ((repeat constructor); done)) | (apply setAt_ints_app; (first | omega | (simp; omega) | (simp; done))) | (apply setAt_ints; (first | omega | (simp; omega) | (simp; done))) | (apply setAtK0; omega) | (apply SetAt.set; (first | omega | (simp; omega) | (simp; done))))); (apply ol_nil))
        | (refine cw_region_id 13 ?_; (apply ol_mv; exact rfl; exact rfl); (apply ol_val; exact rfl; apply stp_pur; apply s_add64; exact rfl; exact rfl; omega); (apply ol_as; exact rfl; exact rfl); (apply ol_nil))
        | (refine cw_region_id 18 ?_; (apply ol_ldN; exact rfl; exact rfl; exact rfl; exact sz_82; (first | (apply RdN.own; (focus ((repeat constructor); done)); (apply getNK_all; (first | assumption | (rw [List.length_replicate])))) | (apply RdN.own; (focus ((repeat constructor); done)); (apply getNK0; omega)))); (apply ol_eff; apply s_storeK; exact rfl; exact rfl; exact sz_82; (focus ((repeat constructor); done)); (first | assumption | (rw [List.length_replicate])); (first | assumption | (rw [List.length_replicate]))); (apply ol_nil))
        | (apply cw_cond_true; exact rfl; (first | exact rfl | assumption))
        | (apply cw_cond_false; exact rfl; (first | exact rfl | assumption))
        | apply cw_skip
        | apply cw_ret
        | apply cw_block
        | apply cw_exit
      refine ⟨k + 1, ⟨by (repeat (first | exact trivial | refine And.intro rfl ?_)), View.le.refl _, ?_, hk', by omega⟩⟩
      rw [hst]
      (repeat (first | exact Pick.nil | (apply Pick.cons; (focus ((repeat (first | exact Spl.here | apply Spl.there)); done))) | exact Pick.refl))
    · have : k = 48 := by omega
      subst this
      have e : sA p 48 = sched (words p 16) 48 := by simp [sA]
      rw [e] at hL ⊢
      clear e
      generalize sched (words p 16) 48 = L at *
      repeat' first
        | apply cw_seq
        | (refine cw_region_id 12 ?_; (apply ol_mv; exact rfl; exact rfl); (apply ol_val; exact rfl; apply stp_cmp; apply s_lss; exact rfl; exact rfl; all_goals (intro hc39; try (exfalso; (first | exact hc39 rfl | omega)))); all_goals (apply ol_nil))
        | (refine cw_draw (id := 14) 10 (.mv 0 (.mv 1 (.mv 2 (.mv 3 (.mv 4 (.mv 5 (.mv 6 (.mv 7 (.mv 8 (.mv 9 (PT.nil))))))))))) mixed (by kernel_rfl) ?_; (apply od_mv; exact rfl; exact rfl; apply s_move; exact rfl); (apply od_mv; exact rfl; exact rfl; apply s_sub64; exact rfl; exact rfl; omega); (apply od_mv; exact rfl; exact rfl; first | (apply s_indexAK; exact rfl; exact rfl; exact ar_82; exact sz_74; omega) | (apply s_indexAO; exact rfl; exact rfl; exact ar_82; exact sz_74; omega)); (apply od_mv; exact rfl; exact rfl; apply s_load1; exact rfl; exact rfl; (apply RdN.own; (focus ((repeat constructor); done)); (first | exact GetN.cons rfl GetN.nil | (apply getN_ints_app; (first | omega | (simp; omega) | (simp; done))) | (apply getN_ints; (first | omega | (simp; omega) | (simp; done)))))); (apply od_mv; exact rfl; exact rfl; apply s_move; exact rfl); (apply od_mv; exact rfl; exact rfl; apply s_sub64; exact rfl; exact rfl; omega); (apply od_mv; exact rfl; exact rfl; first | (apply s_indexAK; exact rfl; exact rfl; exact ar_82; exact sz_74; omega) | (apply s_indexAO; exact rfl; exact rfl; exact ar_82; exact sz_74; omega)); (apply od_mv; exact rfl; exact rfl; apply s_load1; exact rfl; exact rfl; (apply RdN.own; (focus ((repeat constructor); done)); (first | exact GetN.cons rfl GetN.nil | (apply getN_ints_app; (first | omega | (simp; omega) | (simp; done))) | (apply getN_ints; (first | omega | (simp; omega) | (simp; done)))))); (apply od_mv; exact rfl; exact rfl; apply s_assign; exact rfl); (apply od_mv; exact rfl; exact rfl; apply s_assign; exact rfl); (apply od_nil; (first | exact Wk.refl _ _ | (focus (apply Wk.mk; exact View.le.refl _; (repeat constructor); done)))); (apply ol_nil))
        | (refine cw_region_id 15 ?_; (apply ol_mv; exact rfl; exact rfl))
        | (refine cw_region_id 16 ?_; (apply ol_mv; exact rfl; exact rfl))
        | (refine cw_draw (id := 17) 15 (.mv 0 (.mv 1 (.mv 2 (.mv 3 (.mv 4 (.mv 5 (.mv 6 (.mv 7 (.mv 8 (.mv 9 (.mv 10 (.mv 11 (.mv 12 (.mv 13 (.mv 14 (PT.nil)))))))))))))))) mixed (by kernel_rfl) ?_; (apply od_mv; exact rfl; exact rfl; apply s_move; exact rfl); (apply od_mv; exact rfl; exact rfl; apply s_move; exact rfl); (apply od_mv; exact rfl; exact rfl; apply s_sub64; exact rfl; exact rfl; omega); (apply od_mv; exact rfl; exact rfl; first | (apply s_indexAK; exact rfl; exact rfl; exact ar_82; exact sz_74; omega) | (apply s_indexAO; exact rfl; exact rfl; exact ar_82; exact sz_74; omega)); (apply od_mv; exact rfl; exact rfl; apply s_load1; exact rfl; exact rfl; (apply RdN.own; (focus ((repeat constructor); done)); (first | exact GetN.cons rfl GetN.nil | (apply getN_ints_app; (first | omega | (simp; omega) | (simp; done))) | (apply getN_ints; (first | omega | (simp; omega) | (simp; done)))))); (apply od_mv; exact rfl; exact rfl; apply s_move; exact rfl); (apply od_mv; exact rfl; exact rfl; apply s_addW; exact rfl; exact rfl); (apply od_mv; exact rfl; exact rfl; apply s_move; exact rfl); (apply od_mv; exact rfl; exact rfl; apply s_sub64; exact rfl; exact rfl; omega); (apply od_mv; exact rfl; exact rfl; first | (apply s_indexAK; exact rfl; exact rfl; exact ar_82; exact sz_74; omega) | (apply s_indexAO; exact rfl; exact rfl; exact ar_82; exact sz_74; omega)); (apply od_mv; exact rfl; exact rfl; apply s_load1; exact rfl; exact rfl; (apply RdN.own; (focus ((repeat constructor); done)); (first | exact GetN.cons rfl GetN.nil | (apply getN_ints_app; (first | omega | (simp; omega) | (simp; done))) | (apply getN_ints; (first | omega | (simp; omega) | (simp; done)))))); (apply od_mv; exact rfl; exact rfl; apply s_addW; exact rfl; exact rfl); (apply od_mv; exact rfl; exact rfl; apply s_move; exact rfl); (apply od_mv; exact rfl; exact rfl; apply s_addW; exact rfl; exact rfl); (apply od_mv; exact rfl; exact rfl; first | (apply s_indexAK; exact rfl; exact rfl; exact ar_82; exact sz_74; omega) | (apply s_indexAO; exact rfl; exact rfl; exact ar_82; exact sz_74; omega)); (apply od_nil; (first | exact Wk.refl _ _ | (focus (apply Wk.mk; exact View.le.refl _; (repeat constructor); done)))); (apply ol_eff; apply s_store1; exact rfl; exact rfl; exact sz_74; exact rfl; (focus ((repeat constructor); done)); (first | (focus ((repeat constructor); done)) | (apply setAt_ints_app; (first | omega | (simp; omega) | (simp; done))) | (apply setAt_ints; (first | omega | (simp; omega) | (simp; done))) | (apply SetAt.set; (first | omega | (simp; omega) | (simp; done))))); (apply ol_nil))
        | (refine cw_region_id 13 ?_; (apply ol_mv; exact rfl; exact rfl); (apply ol_val; exact rfl; apply stp_pur; apply s_add64; exact rfl; exact rfl; omega); (apply ol_as; exact rfl; exact rfl); (apply ol_nil))
        | (refine cw_region_id 18 ?_; (apply ol_ldN; exact rfl; exact rfl; exact rfl; exact sz_82; (apply RdN.own; (focus ((repeat constructor); done)); (apply getNK_all; (first | assumption | (rw [List.length_replicate]))))); (apply ol_eff; apply s_storeK; exact rfl; exact rfl; exact sz_82; (focus ((repeat constructor); done)); (first | assumption | (rw [List.length_replicate])); (first | assumption | (rw [List.length_replicate]))); (apply ol_nil))
        | (apply cw_cond_true; exact rfl; (first | exact rfl | assumption))
        | (apply cw_cond_false; exact rfl; (first | exact rfl | assumption))
        | apply cw_skip
        | apply cw_ret
        | apply cw_block
        | apply cw_exit
      refine ends [] (RVal.cellN rfl rfl rfl (RdN.own (by (repeat (first | exact Has.here | apply Has.there))) (getNK_all hL)) RVal.nil) Pick.nil ?_
      rfl
end Go.Proofs.YtelidojkpbaofaaDoor
