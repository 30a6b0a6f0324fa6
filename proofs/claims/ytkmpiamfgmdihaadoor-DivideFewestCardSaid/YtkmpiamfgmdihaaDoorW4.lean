/-
  The walks of free nodes, of marking, and of the greatest free node.
-/
import Derived.Test.YtkmpiamfgmdihaaDoorW3
namespace Go.Proofs.YtkmpiamfgmdihaaDoor
set_option maxRecDepth 20000
set_option linter.unusedSimpArgs false
set_option linter.unusedVariables false
open Go Go.Fw
theorem seg_eq (p : List Bool) (a n : Nat) : (p.take (a + n)).drop a = seg p a n := by
  unfold seg
  rw [List.drop_take]
  congr 1
  omega
theorem seg_getD {p : List Bool} {a n k : Nat} (hk : k < n) : (seg p a n).getD k false = p.getD (a + k) false := by
  unfold seg
  simp [List.getD, List.getElem?_take, hk]
def gRes : Option (Nat × Nat) → Value
  | none => .tuple #[.agg [.int .i64 0, .int .i64 0].toArray, .bool false]
  | some (l, i) => .tuple #[.agg [.int .i64 (l : Nat), .int .i64 (i : Nat)].toArray, .bool true]
theorem gLvl_big {s : List Bool} {d most l : Nat} (h : most < sz d l) : gLvl s d most l = none := by unfold gLvl; rw [if_neg (by omega)]
theorem gLvl_no {s : List Bool} {d most l : Nat} (h : ∀ j, j < 2 ^ l → freeN s d l j = false) : gLvl s d most l = none := by
  unfold gLvl
  split
  · exact find_range_none h
  · rfl
theorem gLvl_yes {s : List Bool} {d most l i : Nat} (h0 : sz d l ≤ most) (hi : i < 2 ^ l) (hf : freeN s d l i = true) (h : ∀ j, j < i → freeN s d l j = false) : gLvl s d most l = some i := by
  unfold gLvl
  rw [if_pos h0]
  exact find_range hi hf h
end Go.Proofs.YtkmpiamfgmdihaaDoor
namespace Go.Proofs.YtkmpiamfgmdihaaDoor
set_option maxRecDepth 20000
set_option linter.unusedSimpArgs false
set_option linter.unusedVariables false
open Go Go.Fw
attribute [local irreducible] CW OL OD FX Stp FnC Ret sz seg
set_option maxHeartbeats 800000

theorem contains_spec {M : View} {w : World} (hM : View.le M (View.of w)) {p : List Bool} {n c : Nat} (hn : p.length = n) (hl : n ≤ 1073741824) {a : Option Addr} {b o : Nat} (s : SlA M eB 1 a p b o) :
    FnC Tryd.prog 30 [.slice a n c, .bool true] w (fun v _ => v = .bool (p.contains true)) := by
  subst hn
  have hidx : ∀ w', View.le M (View.of w') → FnC Tryd.prog 48 [.slice a p.length c, .bool true] w' (fun v _ => ∃ j : Int, v = .int .i64 j ∧ (0 ≤ j ↔ p.contains true = true)) := fun w' hM' => by
    refine enterF (M := M) Tryd.func48 rfl rfl rfl rfl hM' ?_
    repeat' first
      | apply cw_seq
      | (refine cw_region_id 0 ?_; (apply ol_as; exact rfl; exact rfl); (apply ol_nil))
      | (refine cw_region_id 1 ?_; (apply ol_mv; exact rfl; exact rfl); (apply ol_val; exact rfl; apply stp_pur; apply s_len; exact rfl; exact el_22); (apply ol_mv; exact rfl; exact rfl); (apply ol_nil))
      | (apply cw_cond_true; exact rfl; (first | exact rfl | assumption))
      | (apply cw_cond_false; exact rfl; (first | exact rfl | assumption))
      | apply cw_skip
      | apply cw_ret
      | apply cw_block
      | apply cw_exit
    refine cw_loopK (σ := Nat) [0, 1, 7] (by (repeat (first | exact Keep.nil | (apply Keep.cons; exact rfl)))) (fun k => [(8, .int .i64 k)]) (fun _ => M) (fun _ => []) (fun k => k ≤ p.length ∧ (p.take k).contains true = false) (fun k => p.length - k) 0 (by (repeat (first | exact trivial | refine And.intro rfl ?_))) (View.le.refl _) (by (repeat (first | exact Pick.nil | (apply Pick.cons; (focus ((repeat (first | exact Spl.here | apply Spl.there)); done))) | exact Pick.refl))) ⟨by omega, rfl⟩ ?_
    rintro k ⟨hk, ht⟩
    try dsimp only
    by_cases hk' : k < p.length
    · have hc := s.getB (off := o + k * 1) (i := k) (by omega) hk'
      cases hb : p.getD k false with
      | true =>
        have hct := contains_at hk' hb
        rw [hb] at hc
        repeat' first
          | apply cw_seq
          | (refine cw_region_id 2 ?_; (apply ol_val; exact rfl; apply stp_cmp; apply s_lss; exact rfl; exact rfl; all_goals (intro hc9; try (exfalso; (first | exact hc9 rfl | omega)))); all_goals (apply ol_nil))
          | (refine cw_region_id 3 ?_; (apply ol_mv; exact rfl; exact rfl); (apply ol_as; exact rfl; exact rfl); (apply ol_nil))
          | (refine cw_region_id 4 ?_; (apply ol_mv; exact rfl; exact rfl); (apply ol_mv; exact rfl; exact rfl); (apply ol_mv; exact rfl; exact rfl); (apply ol_val; exact rfl; apply stp_pur; first | (apply s_indexK; exact rfl; exact rfl; exact el_22; exact sz_4; (first | exact rfl | exact s.at_ (by omega)); omega) | (apply s_indexO; exact rfl; exact rfl; exact el_22; exact sz_4; (first | exact rfl | exact s.at_ (by omega)); omega)); (apply ol_ld; exact rfl; exact rfl; exact rfl; (first | (apply RdN.own; (focus ((repeat constructor); done)); exact GetN.cons rfl GetN.nil) | (apply RdN.view; exact hc))); (apply ol_val; exact rfl; apply stp_pur; apply s_eqlB; exact rfl; exact rfl; exact ub_4); (apply ol_nil))
          | (refine cw_region_id 5 ?_; (apply ol_mv; exact rfl; exact rfl); (apply ol_as; exact rfl; exact rfl); (apply ol_nil))
          | (refine cw_region_id 6 ?_; (apply ol_val; exact rfl; apply stp_pur; apply s_add64; exact rfl; exact rfl; omega); (apply ol_mv; exact rfl; exact rfl); (apply ol_nil))
          | (refine cw_region_id 7 ?_; (apply ol_as; exact rfl; exact rfl); (apply ol_nil))
          | (apply cw_cond_true; exact rfl; (first | exact rfl | assumption))
          | (apply cw_cond_false; exact rfl; (first | exact rfl | assumption))
          | apply cw_skip
          | apply cw_ret
          | apply cw_block
          | apply cw_exit
        refine ends [] (RVal.tmp rfl RVal.nil) Pick.nil ?_
        exact ⟨k, rfl, fun _ => hct, fun _ => Int.natCast_nonneg k⟩
      | false =>
        have hct := contains_take hk' ht hb
        rw [hb] at hc
        repeat' first
          | apply cw_seq
          | (refine cw_region_id 2 ?_; (apply ol_val; exact rfl; apply stp_cmp; apply s_lss; exact rfl; exact rfl; all_goals (intro hc9; try (exfalso; (first | exact hc9 rfl | omega)))); all_goals (apply ol_nil))
          | (refine cw_region_id 3 ?_; (apply ol_mv; exact rfl; exact rfl); (apply ol_as; exact rfl; exact rfl); (apply ol_nil))
          | (refine cw_region_id 4 ?_; (apply ol_mv; exact rfl; exact rfl); (apply ol_mv; exact rfl; exact rfl); (apply ol_mv; exact rfl; exact rfl); (apply ol_val; exact rfl; apply stp_pur; first | (apply s_indexK; exact rfl; exact rfl; exact el_22; exact sz_4; (first | exact rfl | exact s.at_ (by omega)); omega) | (apply s_indexO; exact rfl; exact rfl; exact el_22; exact sz_4; (first | exact rfl | exact s.at_ (by omega)); omega)); (apply ol_ld; exact rfl; exact rfl; exact rfl; (first | (apply RdN.own; (focus ((repeat constructor); done)); exact GetN.cons rfl GetN.nil) | (apply RdN.view; exact hc))); (apply ol_val; exact rfl; apply stp_pur; apply s_eqlB; exact rfl; exact rfl; exact ub_4); (apply ol_nil))
          | (refine cw_region_id 5 ?_; (apply ol_mv; exact rfl; exact rfl); (apply ol_as; exact rfl; exact rfl); (apply ol_nil))
          | (refine cw_region_id 6 ?_; (apply ol_val; exact rfl; apply stp_pur; apply s_add64; exact rfl; exact rfl; omega); (apply ol_mv; exact rfl; exact rfl); (apply ol_nil))
          | (refine cw_region_id 7 ?_; (apply ol_as; exact rfl; exact rfl); (apply ol_nil))
          | (apply cw_cond_true; exact rfl; (first | exact rfl | assumption))
          | (apply cw_cond_false; exact rfl; (first | exact rfl | assumption))
          | apply cw_skip
          | apply cw_ret
          | apply cw_block
          | apply cw_exit
        exact ⟨k + 1, ⟨by (repeat (first | exact trivial | refine And.intro rfl ?_)), View.le.refl _, by (repeat (first | exact Pick.nil | (apply Pick.cons; (focus ((repeat (first | exact Spl.here | apply Spl.there)); done))) | exact Pick.refl)), ⟨hk', hct⟩, by omega⟩⟩
    · have : k = p.length := by omega
      subst this
      rw [List.take_length] at ht
      repeat' first
        | apply cw_seq
        | (refine cw_region_id 2 ?_; (apply ol_val; exact rfl; apply stp_cmp; apply s_lss; exact rfl; exact rfl; all_goals (intro hc9; try (exfalso; (first | exact hc9 rfl | omega)))); all_goals (apply ol_nil))
        | (refine cw_region_id 3 ?_; (apply ol_mv; exact rfl; exact rfl); (apply ol_as; exact rfl; exact rfl); (apply ol_nil))
        | (refine cw_region_id 4 ?_; (apply ol_mv; exact rfl; exact rfl); (apply ol_mv; exact rfl; exact rfl); (apply ol_mv; exact rfl; exact rfl); (apply ol_val; exact rfl; apply stp_pur; first | (apply s_indexK; exact rfl; exact rfl; exact el_22; exact sz_4; (first | exact rfl); omega) | (apply s_indexO; exact rfl; exact rfl; exact el_22; exact sz_4; (first | exact rfl); omega)); (apply ol_ld; exact rfl; exact rfl; exact rfl; (apply RdN.own; (focus ((repeat constructor); done)); exact GetN.cons rfl GetN.nil)); (apply ol_val; exact rfl; apply stp_pur; apply s_eqlB; exact rfl; exact rfl; exact ub_4); (apply ol_nil))
        | (refine cw_region_id 5 ?_; (apply ol_mv; exact rfl; exact rfl); (apply ol_as; exact rfl; exact rfl); (apply ol_nil))
        | (refine cw_region_id 6 ?_; (apply ol_val; exact rfl; apply stp_pur; apply s_add64; exact rfl; exact rfl; omega); (apply ol_mv; exact rfl; exact rfl); (apply ol_nil))
        | (refine cw_region_id 7 ?_; (apply ol_as; exact rfl; exact rfl); (apply ol_nil))
        | (apply cw_cond_true; exact rfl; (first | exact rfl | assumption))
        | (apply cw_cond_false; exact rfl; (first | exact rfl | assumption))
        | apply cw_skip
        | apply cw_ret
        | apply cw_block
        | apply cw_exit
      refine ends [] (RVal.tmp rfl RVal.nil) Pick.nil ?_
      exact ⟨-1, rfl, by rw [ht]; simp⟩
  refine enterF (M := M) Tryd.func30 rfl rfl rfl rfl hM ?_
  repeat' first
    | apply cw_seq
    | (refine cw_region_id 0 ?_; (apply ol_as; exact rfl; exact rfl); (apply ol_nil))
    | (refine cw_region_id 1 ?_; (apply ol_mv; exact rfl; exact rfl); (apply ol_mv; exact rfl; exact rfl); (apply ol_val; exact rfl; apply s_call; exact rfl; exact gf_48; (intro w' hw'; exact hidx w' hw'.le); ((intro v new hv; obtain ⟨j, rfl, hj⟩ := hv))); (apply ol_val; exact rfl; apply stp_cmp; apply s_geq; exact rfl; exact rfl; all_goals (intro hc8; try (exfalso; (first | exact hc8 rfl | omega)))); all_goals (apply ol_as; exact rfl; exact rfl); all_goals (apply ol_nil))
    | (apply cw_cond_true; exact rfl; (first | exact rfl | assumption))
    | (apply cw_cond_false; exact rfl; (first | exact rfl | assumption))
    | apply cw_skip
    | apply cw_ret
    | apply cw_block
    | apply cw_exit
  · refine ends [] (RVal.tmp rfl RVal.nil) Pick.nil ?_
    rw [hj.1 hc8]; rfl
  · refine ends [] (RVal.tmp rfl RVal.nil) Pick.nil ?_
    cases hc : p.contains true with
    | true => exact absurd (hj.2 hc) hc8
    | false => rfl

theorem nfree_spec {M : View} {w : World} (hM : View.le M (View.of w)) {d l i : Nat} (hd : d ≤ 5) (hl : l ≤ d) (hi : i < 2 ^ l) {p : List Bool} {n c : Nat} (hn : p.length = n) (hp : n = 2 ^ d) (hc : n ≤ c) {a : Option Addr} {b o : Nat} (s : SlA M eB 1 a p b o) :
    FnC Tryd.prog 46 [.int .i64 d, .slice a n c, .agg [.int .i64 l, .int .i64 i].toArray] w (fun v _ => v = .bool (freeN p d l i)) := by
  refine enterF (M := M) Tryd.func46 rfl rfl rfl rfl hM ?_
  have hb := node_end' hl hi
  have h32 := pow32 hd
  have hs := fun w' => span_spec w' hl hd hi
  have hcon : ∀ w', View.le M (View.of w') → FnC Tryd.prog 30 [.slice (slicedA a (i * sz d l) c 1) (i * sz d l + sz d l - i * sz d l) (c - i * sz d l), .bool true] w' (fun v _ => v = .bool ((seg p (i * sz d l) (sz d l)).contains true)) := fun w' hM' => by
    have h1 := SlA.sub (l := i * sz d l) (h := i * sz d l + sz d l) (m := c) s (by omega) (by omega) (by omega)
    rw [seg_eq] at h1
    exact contains_spec hM' (by rw [seg_length (by omega)]; omega) (by omega) h1
  unfold freeN
  generalize (seg p (i * sz d l) (sz d l)).contains true = B at *
  repeat' first
    | apply cw_seq
    | (refine cw_region_id 0 ?_; (apply ol_val; exact rfl; first | (apply s_boxN; exact rfl; intro bk5) | (apply s_box1; exact rfl; exact rfl; intro bk5)); (apply ol_as; exact rfl; exact rfl); (apply ol_nil))
    | (refine cw_region_id 1 ?_; (apply ol_mv; exact rfl; exact rfl); (apply ol_ldN; exact rfl; exact rfl; exact rfl; exact sz_32; (apply RdN.own; (focus ((repeat constructor); done)); (focus ((repeat (first | exact rfl | constructor)); done)))); (apply ol_val; exact rfl; apply s_callv; exact rfl; exact gf_50; (intro w' hw'; exact hs w')); (apply ol_mv; exact rfl; exact rfl); (apply ol_ex; exact rfl; exact rfl; exact rfl); (apply ol_ex; exact rfl; exact rfl; exact rfl); (apply ol_as; exact rfl; exact rfl); (apply ol_as; exact rfl; exact rfl); (apply ol_nil))
    | (refine cw_region_id 2 ?_; (apply ol_mv; exact rfl; exact rfl); (apply ol_mv; exact rfl; exact rfl); (apply ol_mv; exact rfl; exact rfl); (apply ol_val; exact rfl; apply stp_pur; apply s_slice; exact rfl; exact el_22; exact sz_4; exact Exists.intro _ rfl; exact Exists.intro _ rfl; exact rfl; (intro h; first | exact rfl | cases h); (first | omega | (simp; omega) | (simp; done)); (first | omega | (simp; omega) | (simp; done)); (first | omega | (simp; omega) | (simp; done))); (apply ol_val; exact rfl; apply s_callv; exact rfl; exact gf_30; (intro w' hw'; exact hcon w' hw'.le)); (apply ol_val; exact rfl; apply stp_pur; first | (apply s_not_t; exact rfl; (first | exact rfl | assumption)) | (apply s_not_f; exact rfl; (first | exact rfl | assumption)) | (apply s_not; exact rfl)); (apply ol_as; exact rfl; exact rfl); (apply ol_nil))
    | (apply cw_cond_true; exact rfl; (first | exact rfl | assumption))
    | (apply cw_cond_false; exact rfl; (first | exact rfl | assumption))
    | apply cw_skip
    | apply cw_ret
    | apply cw_block
    | apply cw_exit
  refine ends [] (RVal.tmp rfl RVal.nil) Pick.nil ?_
  rfl

theorem isFree_spec {M : View} {w : World} (hM : View.le M (View.of w)) {d l i : Nat} (hd : d ≤ 5) (hl : l ≤ d) (hi : i < 2 ^ l) {p : List Bool} {n c : Nat} (hn : p.length = n) (hp : n = 2 ^ d) {a : Option Addr} {b o : Nat} (s : SlA M eB 1 a p b o) :
    FnC Tryd.prog 47 [.slice a n c, .agg [.int .i64 l, .int .i64 i].toArray] w (fun v _ => v = .bool (freeN p d l i)) := by
  refine enterF (M := M) Tryd.func47 rfl rfl rfl rfl hM ?_
  have hb := node_end' hl hi
  have h32 := pow32 hd
  have h1 := fun w' => rdepth_spec w' hd hp
  have h2 := fun w' => size_spec w' (i : Int) hl hd
  have h3 := fun w' => first_spec w' hl hd hi
  have hsl := seg_length (s := p) (a := i * sz d l) (n := sz d l) (by omega)
  unfold freeN
  generalize hF : i * sz d l = F at *
  generalize hS : sz d l = S at *
  repeat' first
    | apply cw_seq
    | (refine cw_region_id 0 ?_; (apply ol_val; exact rfl; first | (apply s_boxN; exact rfl; intro bk3) | (apply s_box1; exact rfl; exact rfl; intro bk3)); (apply ol_as; exact rfl; exact rfl); (apply ol_nil))
    | (refine cw_region_id 1 ?_; (apply ol_mv; exact rfl; exact rfl); (apply ol_val; exact rfl; apply stp_pur; apply s_len; exact rfl; exact el_22); (apply ol_val; exact rfl; apply s_callv; exact rfl; exact gf_12; (intro w' hw'; exact h1 w')); (apply ol_as; exact rfl; exact rfl); (apply ol_nil))
    | (refine cw_region_id 2 ?_; (apply ol_as; exact rfl; exact rfl); (apply ol_nil))
    | (apply cw_cond_true; exact rfl; (first | exact rfl | assumption))
    | (apply cw_cond_false; exact rfl; (first | exact rfl | assumption))
    | apply cw_skip
    | apply cw_ret
    | apply cw_block
    | apply cw_exit
  refine cw_loopK (σ := Nat) [0, 3, 5] (by (repeat (first | exact Keep.nil | (apply Keep.cons; exact rfl)))) (fun k => [(6, .int .i64 k)]) (fun _ => M) (fun _ => [⟨some bk3, [.int .i64 l, .int .i64 i], 32⟩]) (fun k => k ≤ S ∧ ((seg p F S).take k).contains true = false) (fun k => S - k) 0 (by (repeat (first | exact trivial | refine And.intro rfl ?_))) (View.le.refl _) (by (repeat (first | exact Pick.nil | (apply Pick.cons; (focus ((repeat (first | exact Spl.here | apply Spl.there)); done))) | exact Pick.refl))) ⟨by omega, rfl⟩ ?_
  rintro k ⟨hk, ht⟩
  try dsimp only
  by_cases hk' : k < S
  · have hg := seg_getD (p := p) (a := F) hk'
    have hc := s.getB (off := o + (F + k) * 1) (i := F + k) (by omega) (by omega)
    rw [← hg] at hc
    have e1 : ((F : Int) + (k : Int)) = ((F + k : Nat) : Int) := by omega
    cases hb : (seg p F S).getD k false with
    | true =>
      have hct := contains_at (p := seg p F S) (by omega) hb
      rw [hb] at hc
      rw [hct]
      repeat' first
        | apply cw_seq
        | (refine cw_region_id 3 ?_; (apply ol_mv; exact rfl; exact rfl); (apply ol_mv; exact rfl; exact rfl); (apply ol_ldN; exact rfl; exact rfl; exact rfl; exact sz_32; (first | (apply RdN.own; (focus ((repeat constructor); done)); (focus ((repeat (first | exact rfl | constructor)); done))) | (apply RdN.view; exact hc))); (apply ol_val; exact rfl; apply s_callv; exact rfl; exact gf_25; (intro w' hw'; exact h2 w')); (apply ol_val; exact rfl; apply stp_cmp; apply s_lss; exact rfl; exact rfl; all_goals (intro hc14; try (exfalso; (first | exact hc14 rfl | omega)))); all_goals (apply ol_nil))
        | (refine cw_region_id 5 ?_; (apply ol_mv; exact rfl; exact rfl); (apply ol_mv; exact rfl; exact rfl); (apply ol_ldN; exact rfl; exact rfl; exact rfl; exact sz_32; (first | (apply RdN.own; (focus ((repeat constructor); done)); (focus ((repeat (first | exact rfl | constructor)); done))) | (apply RdN.view; exact hc))); (apply ol_val; exact rfl; apply s_callv; exact rfl; exact gf_31; (intro w' hw'; exact h3 w')); (apply ol_mv; exact rfl; exact rfl); (apply ol_val; exact rfl; apply stp_pur; apply s_add64; exact rfl; exact rfl; omega); (apply ol_val; exact rfl; apply stp_pur; first | (apply s_indexK; exact rfl; exact rfl; exact el_22; exact sz_4; (first | exact rfl | exact s.at_ (by omega)); omega) | (apply s_indexO; exact rfl; exact rfl; exact el_22; exact sz_4; (first | exact rfl | exact s.at_ (by omega)); omega)); (apply ol_ld; exact rfl; exact rfl; exact rfl; (first | (apply RdN.own; (focus ((repeat constructor); done)); exact GetN.cons rfl GetN.nil) | (apply RdN.view; exact hc))); (apply ol_nil))
        | (refine cw_region_id 6 ?_; (apply ol_as; exact rfl; exact rfl); (apply ol_nil))
        | (refine cw_region_id 4 ?_; (apply ol_mv; exact rfl; exact rfl); (apply ol_val; exact rfl; apply stp_pur; apply s_add64; exact rfl; exact rfl; omega); (apply ol_as; exact rfl; exact rfl); (apply ol_nil))
        | (refine cw_region_id 7 ?_; (apply ol_as; exact rfl; exact rfl); (apply ol_nil))
        | (apply cw_cond_true; exact rfl; (first | exact rfl | assumption))
        | (apply cw_cond_false; exact rfl; (first | exact rfl | assumption))
        | apply cw_skip
        | apply cw_ret
        | apply cw_block
        | apply cw_exit
      refine ends [] (RVal.tmp rfl RVal.nil) Pick.nil ?_
      rfl
    | false =>
      have hct := contains_take (p := seg p F S) (by omega) ht hb
      rw [hb] at hc
      repeat' first
        | apply cw_seq
        | (refine cw_region_id 3 ?_; (apply ol_mv; exact rfl; exact rfl); (apply ol_mv; exact rfl; exact rfl); (apply ol_ldN; exact rfl; exact rfl; exact rfl; exact sz_32; (first | (apply RdN.own; (focus ((repeat constructor); done)); (focus ((repeat (first | exact rfl | constructor)); done))) | (apply RdN.view; exact hc))); (apply ol_val; exact rfl; apply s_callv; exact rfl; exact gf_25; (intro w' hw'; exact h2 w')); (apply ol_val; exact rfl; apply stp_cmp; apply s_lss; exact rfl; exact rfl; all_goals (intro hc14; try (exfalso; (first | exact hc14 rfl | omega)))); all_goals (apply ol_nil))
        | (refine cw_region_id 5 ?_; (apply ol_mv; exact rfl; exact rfl); (apply ol_mv; exact rfl; exact rfl); (apply ol_ldN; exact rfl; exact rfl; exact rfl; exact sz_32; (first | (apply RdN.own; (focus ((repeat constructor); done)); (focus ((repeat (first | exact rfl | constructor)); done))) | (apply RdN.view; exact hc))); (apply ol_val; exact rfl; apply s_callv; exact rfl; exact gf_31; (intro w' hw'; exact h3 w')); (apply ol_mv; exact rfl; exact rfl); (apply ol_val; exact rfl; apply stp_pur; apply s_add64; exact rfl; exact rfl; omega); (apply ol_val; exact rfl; apply stp_pur; first | (apply s_indexK; exact rfl; exact rfl; exact el_22; exact sz_4; (first | exact rfl | exact s.at_ (by omega)); omega) | (apply s_indexO; exact rfl; exact rfl; exact el_22; exact sz_4; (first | exact rfl | exact s.at_ (by omega)); omega)); (apply ol_ld; exact rfl; exact rfl; exact rfl; (first | (apply RdN.own; (focus ((repeat constructor); done)); exact GetN.cons rfl GetN.nil) | (apply RdN.view; exact hc))); (apply ol_nil))
        | (refine cw_region_id 6 ?_; (apply ol_as; exact rfl; exact rfl); (apply ol_nil))
        | (refine cw_region_id 4 ?_; (apply ol_mv; exact rfl; exact rfl); (apply ol_val; exact rfl; apply stp_pur; apply s_add64; exact rfl; exact rfl; omega); (apply ol_as; exact rfl; exact rfl); (apply ol_nil))
        | (refine cw_region_id 7 ?_; (apply ol_as; exact rfl; exact rfl); (apply ol_nil))
        | (apply cw_cond_true; exact rfl; (first | exact rfl | assumption))
        | (apply cw_cond_false; exact rfl; (first | exact rfl | assumption))
        | apply cw_skip
        | apply cw_ret
        | apply cw_block
        | apply cw_exit
      exact ⟨k + 1, ⟨by (repeat (first | exact trivial | refine And.intro rfl ?_)), View.le.refl _, by (repeat (first | exact Pick.nil | (apply Pick.cons; (focus ((repeat (first | exact Spl.here | apply Spl.there)); done))) | exact Pick.refl)), ⟨hk', hct⟩, by omega⟩⟩
  · have : k = S := by omega
    subst this
    rw [List.take_of_length_le (by omega)] at ht
    rw [ht]
    repeat' first
      | apply cw_seq
      | (refine cw_region_id 3 ?_; (apply ol_mv; exact rfl; exact rfl); (apply ol_mv; exact rfl; exact rfl); (apply ol_ldN; exact rfl; exact rfl; exact rfl; exact sz_32; (apply RdN.own; (focus ((repeat constructor); done)); (focus ((repeat (first | exact rfl | constructor)); done)))); (apply ol_val; exact rfl; apply s_callv; exact rfl; exact gf_25; (intro w' hw'; exact h2 w')); (apply ol_val; exact rfl; apply stp_cmp; apply s_lss; exact rfl; exact rfl; all_goals (intro hc14; try (exfalso; (first | exact hc14 rfl | omega)))); all_goals (apply ol_nil))
      | (refine cw_region_id 5 ?_; (apply ol_mv; exact rfl; exact rfl); (apply ol_mv; exact rfl; exact rfl); (apply ol_ldN; exact rfl; exact rfl; exact rfl; exact sz_32; (apply RdN.own; (focus ((repeat constructor); done)); (focus ((repeat (first | exact rfl | constructor)); done)))))
      | (refine cw_region_id 6 ?_; (apply ol_as; exact rfl; exact rfl); (apply ol_nil))
      | (refine cw_region_id 4 ?_; (apply ol_mv; exact rfl; exact rfl); (apply ol_val; exact rfl; apply stp_pur; apply s_add64; exact rfl; exact rfl; omega); (apply ol_as; exact rfl; exact rfl); (apply ol_nil))
      | (refine cw_region_id 7 ?_; (apply ol_as; exact rfl; exact rfl); (apply ol_nil))
      | (apply cw_cond_true; exact rfl; (first | exact rfl | assumption))
      | (apply cw_cond_false; exact rfl; (first | exact rfl | assumption))
      | apply cw_skip
      | apply cw_ret
      | apply cw_block
      | apply cw_exit
    refine ends [] (RVal.tmp rfl RVal.nil) Pick.nil ?_
    rfl
end Go.Proofs.YtkmpiamfgmdihaaDoor
