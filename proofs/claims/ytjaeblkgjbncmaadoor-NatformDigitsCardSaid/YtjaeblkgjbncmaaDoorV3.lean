/-
  The law NatformDigits.
-/
import Derived.Test.YtjaeblkgjbncmaaDoorV1
namespace Go.Proofs.YtjaeblkgjbncmaaDoor
set_option maxRecDepth 20000
set_option linter.unusedSimpArgs false
set_option linter.unusedVariables false
open Go Go.Fw
theorem and15_fin : ∀ i : Fin 256, Go.bits .and .u8 (i.val : Int) 15 = (i.val : Int) % 16 := by decide +kernel
theorem and15b {x : Nat} (h : x < 256) : Go.bits .and .u8 ((x : Nat) : Int) 15 = ((x % 16 : Nat) : Int) := by
  have := and15_fin ⟨x, h⟩
  simp only at this
  rw [this]
  omega
def DIGS : List Int := [48, 49, 50, 51, 52, 53, 54, 55, 56, 57, 97, 98, 99, 100, 101, 102]
theorem digS : (⟨#[48, 49, 50, 51, 52, 53, 54, 55, 56, 57, 97, 98, 99, 100, 101, 102]⟩ : ByteArray) = strOf DIGS := by decide
theorem DIGS_at : ∀ i, i < 16 → (DIGS.take (i + 1)).drop i = [chr i] := by decide
/-- A byte's two digits. -/
def hx2 (x : Nat) : List Int := [chr (x / 16), chr (x % 16)]
/-- The digits of some bytes. -/
def hxs (l : List Int) : List Int := l.flatMap fun x => hx2 x.toNat
theorem hxs_snoc (l : List Int) (x : Nat) : hxs (l ++ [((x : Nat) : Int)]) = hxs l ++ ([chr (x / 16)] ++ [chr (x % 16)]) := by unfold hxs hx2; simp
theorem hxs_nil : hxs [] = [] := rfl
theorem hxs_length (l : List Int) : (hxs l).length = 2 * l.length := by
  unfold hxs hx2
  induction l with
  | nil => rfl
  | cons x l ih => rw [List.flatMap_cons, List.length_append, ih]; simp only [List.length_cons, List.length_nil]; omega
theorem hxs_bI (m N : Nat) : hxs (bI m N) = fixT 16 (2 * m) N := by
  induction m with
  | zero => rfl
  | succ m ih =>
    have e : hxs (bI (m + 1) N) = hx2 (N / 256 ^ m % 256) ++ hxs (bI m N) := by
      rw [bI_succ]
      unfold hxs
      rw [List.flatMap_cons, Int.toNat_natCast]
    rw [e, ih]
    unfold fixT hx2
    rw [show 2 * (m + 1) = 2 * m + 1 + 1 by omega, lw_succ, lw_succ]
    have h1 : (256 : Nat) ^ m = 16 ^ (2 * m) := by rw [Nat.pow_mul]
    have h2 : N / 256 ^ m % 256 / 16 = N / 16 ^ (2 * m + 1) % 16 := by
      rw [h1, Nat.pow_succ, ← Nat.div_div_eq_div_mul]
      omega
    have h3 : N / 256 ^ m % 256 % 16 = N / 16 ^ (2 * m) % 16 := by rw [h1]; omega
    rw [h2, h3]
    simp
/-- A leading zero taken off. -/
theorem fixT_drop {j N : Nat} : fixT 16 (j + 1) N = chr (N / 16 ^ j % 16) :: fixT 16 j N := by unfold fixT; rw [lw_succ]; simp
theorem fix_zero {j N : Nat} (h : N < 16 ^ (j + 1)) (hz : chr (N / 16 ^ j % 16) = 48) : N < 16 ^ j := by
  have h1 : N / 16 ^ j % 16 = 0 := (chr_zero (Nat.mod_lt _ (by decide))).1 hz
  have h4 : N / 16 ^ j < 16 := (Nat.div_lt_iff_lt_mul (Nat.pow_pos (by decide))).2 (by rwa [Nat.pow_succ'] at h)
  rw [Nat.mod_eq_of_lt h4] at h1
  exact (Nat.div_eq_zero_iff_lt (Nat.pow_pos (by decide))).1 h1
theorem fix_one {N : Nat} (h : N < 16 ^ 1) : fixT 16 1 N = txt 16 N := by
  obtain ⟨h1, h2⟩ := pad_txt (b := 16) (m := 1) (by decide) (by decide) h
  have h3 := txt_len_pos 16 N (by decide)
  rw [← h2, show 1 - (txt 16 N).length = 0 by omega]
  rfl
theorem fix_top {j N : Nat} (h : N < 16 ^ (j + 1)) (hz : ¬ chr (N / 16 ^ j % 16) = 48) : fixT 16 (j + 1) N = txt 16 N := by
  have h1 : N / 16 ^ j % 16 ≠ 0 := fun h2 => hz ((chr_zero (Nat.mod_lt _ (by decide))).2 h2)
  have hnd : nd 16 N = j + 1 := nd_eq (by decide) h fun _ => by simpa using h1
  have hpos : 0 < N := by
    rcases Nat.eq_zero_or_pos N with h2 | h2
    · subst h2; rw [nd_zero] at hnd; omega
    · exact h2
  rw [txt_pos hpos]
  unfold fixT dg
  rw [hnd]
end Go.Proofs.YtjaeblkgjbncmaaDoor
namespace Go.Proofs.YtjaeblkgjbncmaaDoor
set_option maxRecDepth 20000
set_option linter.unusedSimpArgs false
set_option linter.unusedVariables false
open Go Go.Fw
attribute [local irreducible] CW OL OD FX Stp FnC FnV Ret wI vd strOf upT txt fixT rdP fbP byP hxs chr bI
set_option maxHeartbeats 800000
theorem law_digits {M : View} {w : World} (hM : View.le M (View.of w)) (hL : LT M) {a : Option Addr} {b o c k N : Nat} (hN : N < W ^ k) (s : SlA M (eK .u32) 1 a (wI k N) b o) :
    FnC Tryd.prog 5 [.agg [.slice a k c].toArray] w (fun v _ => v = .bool true) := by
  refine enterF (M := M) Tryd.func5 rfl rfl rfl rfl hM ?_
  have ka := fun (w' : World) (h : View.le M (View.of w')) => awake_spec h hL
  have kg := fun (w' : World) => great_spec w' (a := a) (k := k) (c := c)
  by_cases hk : 100 < k
  · rw [decide_eq_true hk] at kg
    repeat' first
      | apply cw_seq
      | (refine cw_region_id 0 ?_; (apply ol_val; exact rfl; first | (apply s_boxN; exact rfl; intro bk1) | (apply s_box1; exact rfl; exact rfl; intro bk1)); (apply ol_as; exact rfl; exact rfl); (apply ol_nil))
      | (refine cw_region_id 1 ?_; (apply ol_val; exact rfl; apply s_callv; exact rfl; exact gf_9; (intro w' hw'; exact ka w' hw'.le)); (apply ol_val; exact rfl; apply stp_pur; first | (apply s_not_t; exact rfl; (first | exact rfl | assumption)) | (apply s_not_f; exact rfl; (first | exact rfl | assumption)) | (apply s_not; exact rfl)); (apply ol_nil))
      | (refine cw_region_id 3 ?_; (apply ol_ldN; exact rfl; exact rfl; exact rfl; exact sz_25; (apply RdN.own; (focus ((repeat constructor); done)); (focus ((repeat (first | exact rfl | constructor)); done)))); (apply ol_val; exact rfl; apply s_callv; exact rfl; exact gf_15; (intro w' hw'; exact kg w')); (apply ol_mv; exact rfl; exact rfl); (first | (apply ol_gskip; exact rfl; exact rfl; (first | exact rfl | assumption); exact rfl) | (apply ol_gval; exact rfl; exact rfl; exact rfl; (first | exact rfl | assumption); apply stp_pur; apply s_loadN; exact rfl; exact rfl; exact sz_25; (apply RdN.own; (focus ((repeat constructor); done)); (focus ((repeat (first | exact rfl | constructor)); done))))); (apply ol_gskip; exact rfl; exact rfl; (first | exact rfl | assumption); exact rfl); (first | (apply ol_gskip; exact rfl; exact rfl; (first | exact rfl | assumption); exact rfl) | (apply ol_gval; exact rfl; exact rfl; exact rfl; (first | exact rfl | assumption); apply stp_pur; first | (apply s_not_t; exact rfl; (first | exact rfl | assumption)) | (apply s_not_f; exact rfl; (first | exact rfl | assumption)) | (apply s_not; exact rfl))); (apply ol_val; exact rfl; apply stp_pur; first | (apply s_pick_t; exact rfl; (first | exact rfl | assumption); exact rfl) | (apply s_pick_f; exact rfl; (first | exact rfl | assumption); exact rfl)); (apply ol_nil))
      | (refine cw_region_id 4 ?_; (apply ol_as; exact rfl; exact rfl); (apply ol_nil))
      | (apply cw_cond_true; exact rfl; (first | exact rfl | assumption))
      | (apply cw_cond_false; exact rfl; (first | exact rfl | assumption))
      | apply cw_skip
      | apply cw_ret
      | apply cw_block
      | apply cw_exit
    refine ends [] (RVal.tmp rfl RVal.nil) Pick.nil ?_
    rfl
  · rw [decide_eq_false hk] at kg
    have kv := fun (w' : World) (h : View.le M (View.of w')) => rvalid_spec h (c := c) hN (by omega) s
    by_cases hv : vd k N = true
    · rw [hv] at kv
      have hk2 : k ≤ 64 ∧ nd W N = k := by unfold vd at hv; simpa using hv
      have hN4 : N < 256 ^ (4 * k) := by rw [Nat.pow_mul, ← W_256]; exact hN
      have kb := fun (w' : World) (h : View.le M (View.of w')) => bytes_spec h (c := c) hN (by omega) s ((4 * k : Nat) : Int)
      have eb : byP k N ((4 * k : Nat) : Int) = (0, bI (4 * k) N) := by
        unfold byP
        rw [if_neg (by rw [hv]; decide), if_neg (by omega), Int.toNat_natCast, if_neg (fun h => h hN4)]
      rw [eb] at kb
      unfold BRs RowRes at kb
      dsimp only at kb
      have hBl := bI_length (4 * k) N
      rw [hBl] at kb
      have hcast : ((4 * k : Nat) : Int) = 4 * (k : Int) := by omega
      rw [hcast] at kb
      have kh := fun (w' : World) (h : View.le M (View.of w')) => hex_spec h (hL.mono (View.le.refl M)) (c := c) hN (by omega) s
      have et : txP 16 k N = txt 16 N := by unfold txP; rw [if_pos hv]
      rw [et] at kh
      repeat' first
        | apply cw_seq
        | (refine cw_region_id 0 ?_; (apply ol_val; exact rfl; first | (apply s_boxN; exact rfl; intro bk1) | (apply s_box1; exact rfl; exact rfl; intro bk1)); (apply ol_as; exact rfl; exact rfl); (apply ol_nil))
        | (refine cw_region_id 1 ?_; (apply ol_val; exact rfl; apply s_callv; exact rfl; exact gf_9; (intro w' hw'; exact ka w' hw'.le)); (apply ol_val; exact rfl; apply stp_pur; first | (apply s_not_t; exact rfl; (first | exact rfl | assumption)) | (apply s_not_f; exact rfl; (first | exact rfl | assumption)) | (apply s_not; exact rfl)); (apply ol_nil))
        | (refine cw_region_id 3 ?_; (apply ol_ldN; exact rfl; exact rfl; exact rfl; exact sz_25; (apply RdN.own; (focus ((repeat constructor); done)); (focus ((repeat (first | exact rfl | constructor)); done)))); (apply ol_val; exact rfl; apply s_callv; exact rfl; exact gf_15; (intro w' hw'; exact kg w')); (apply ol_mv; exact rfl; exact rfl); (first | (apply ol_gskip; exact rfl; exact rfl; (first | exact rfl | assumption); exact rfl) | (apply ol_gval; exact rfl; exact rfl; exact rfl; (first | exact rfl | assumption); apply stp_pur; apply s_loadN; exact rfl; exact rfl; exact sz_25; (apply RdN.own; (focus ((repeat constructor); done)); (focus ((repeat (first | exact rfl | constructor)); done))))); (first | (apply ol_gskip; exact rfl; exact rfl; (first | exact rfl | assumption); exact rfl) | (apply ol_gval; exact rfl; exact rfl; exact rfl; (first | exact rfl | assumption); apply s_callv; exact rfl; exact gf_16; (intro w' hw'; exact kv w' hw'.le))); (first | (apply ol_gskip; exact rfl; exact rfl; (first | exact rfl | assumption); exact rfl) | (apply ol_gval; exact rfl; exact rfl; exact rfl; (first | exact rfl | assumption); apply stp_pur; first | (apply s_not_t; exact rfl; (first | exact rfl | assumption)) | (apply s_not_f; exact rfl; (first | exact rfl | assumption)) | (apply s_not; exact rfl))); (apply ol_val; exact rfl; apply stp_pur; first | (apply s_pick_t; exact rfl; (first | exact rfl | assumption); exact rfl) | (apply s_pick_f; exact rfl; (first | exact rfl | assumption); exact rfl)); (apply ol_nil))
        | (refine cw_region_id 5 ?_; (apply ol_ldN; exact rfl; exact rfl; exact rfl; exact sz_25; (apply RdN.own; (focus ((repeat constructor); done)); (focus ((repeat (first | exact rfl | constructor)); done)))); (apply ol_fa; exact rfl; exact rfl; exact fd_25_0; (first | exact Nat.zero_add _ | exact Nat.add_zero _ | exact rfl)); (apply ol_ld; exact rfl; exact rfl; exact rfl; (apply RdN.own; (focus ((repeat constructor); done)); exact GetN.cons rfl GetN.nil)); (apply ol_val; exact rfl; apply stp_pur; apply s_len; exact rfl; exact el_23); (apply ol_val; exact rfl; apply stp_pur; apply s_mul64; exact rfl; exact rfl; omega); (apply ol_val; exact rfl; apply s_call; exact rfl; exact gf_17; (intro w' hw'; exact kb w' hw'.le); ((intro v new h; obtain ⟨_, rfl, r1, A1, cap1, sp1, rfl, rfl, so1⟩ := h))); (apply ol_mv; exact rfl; exact rfl); (apply ol_ex; exact rfl; exact rfl; exact rfl); (apply ol_ex; exact rfl; exact rfl; exact rfl); (apply ol_as; exact rfl; exact rfl); (apply ol_as; exact rfl; exact rfl); (apply ol_nil))
        | (refine cw_region_id 6 ?_; (apply ol_mv; exact rfl; exact rfl); (apply ol_val; exact rfl; apply stp_cmp; apply s_neq; exact rfl; exact rfl; all_goals (intro hc27; try (exfalso; (first | exact hc27 rfl | omega)))); all_goals (apply ol_nil))
        | (refine cw_region_id 8 ?_; (apply ol_as; exact rfl; exact rfl); (apply ol_nil))
        | (refine cw_region_id 9 ?_; (apply ol_mv; exact rfl; exact rfl); (apply ol_val; exact rfl; apply stp_pur; apply s_len; exact rfl; exact el_33); (apply ol_mv; exact rfl; exact rfl); (apply ol_nil))
        | (apply cw_cond_true; exact rfl; (first | exact rfl | assumption))
        | (apply cw_cond_false; exact rfl; (first | exact rfl | assumption))
        | apply cw_skip
        | apply cw_ret
        | apply cw_block
        | apply cw_exit
      have hbx := bI_b (4 * k) N
      have hdr := hxs_bI (4 * k) N
      have hsx := hxs_length (bI (4 * k) N)
      have e0 : strOf (hxs ((bI (4 * k) N).take 0)) = (⟨#[]⟩ : ByteArray) := by rw [List.take_zero, hxs_nil]; exact strE.symm
      refine cw_loopK (σ := Nat) [1, 28, 29] (by (repeat (first | exact Keep.nil | (apply Keep.cons; exact rfl)))) (fun i => [(5, .string (strOf (hxs ((bI (4 * k) N).take i)))), (30, .int .i64 i)]) (fun _ => M) (fun _ => [⟨r1, flat (eK .u8) (bI (4 * k) N) ++ sp1, 5⟩, ⟨some bk1, [.slice a k c], 25⟩]) (fun i => i ≤ 4 * k) (fun i => 4 * k - i) 0 (by rw [e0]; (repeat (first | exact trivial | refine And.intro rfl ?_))) (View.le.refl _) (by (repeat (first | exact Pick.nil | (apply Pick.cons; (focus ((repeat (first | exact Spl.here | apply Spl.there)); done))) | exact Pick.refl))) (Nat.zero_le _) ?_
      intro i hi
      by_cases hik : i < 4 * k
      · obtain ⟨q, rfl⟩ : ∃ q, r1 = some q := ⟨_, some_ref so1 (by omega)⟩
        generalize hB : bI (4 * k) N = B at *
        have hg2 := getNK (k := .u8) (sp := sp1) (show i < B.length by omega)
        have hxb := isB_getD hbx i
        have hgd : B.getD i 0 = B[i]'(by omega) := by rw [List.getD_eq_getElem?_getD, List.getElem?_eq_getElem (show i < B.length by omega)]; rfl
        have htk := List.take_succ_eq_append_getElem (show i < B.length by omega)
        rw [← hgd] at htk
        generalize B.getD i 0 = z at *
        obtain ⟨xn, rfl⟩ := Int.eq_ofNat_of_zero_le hxb.1
        have hst := hxs_snoc (B.take i) xn
        rw [← htk] at hst
        have hUl := hxs_length (B.take i)
        have hTl : (B.take i).length ≤ 4 * k := by rw [List.length_take]; omega
        have hA := DIGS_at (xn / 16) (by omega)
        have hC := DIGS_at (xn % 16) (by omega)
        have hand := and15b (x := xn) (by omega)
        have hsr : ((xn : Nat) : Int) / 2 ^ (4 : Int).toNat = ((xn / 16 : Nat) : Int) := (Int.natCast_ediv xn 16).symm
        have hx16 : xn / 16 < 16 := by omega
        have hm16 : xn % 16 < 16 := by omega
        generalize xn / 16 = p1 at *
        generalize xn % 16 = p2 at *
        repeat' first
          | apply cw_seq
          | (refine cw_region_id 10 ?_; (apply ol_val; exact rfl; apply stp_cmp; apply s_lss; exact rfl; exact rfl; all_goals (intro hc31; try (exfalso; (first | exact hc31 rfl | omega)))); all_goals (apply ol_nil))
          | (refine cw_region_id 11 ?_; (apply ol_val; exact rfl; apply stp_pur; first | (apply s_indexK; exact rfl; exact rfl; exact el_33; exact sz_5; (first | exact rfl | exact (show base (some q) A1 = _ from rfl)); omega) | (apply s_indexO; exact rfl; exact rfl; exact el_33; exact sz_5; (first | exact rfl | exact (show base (some q) A1 = _ from rfl)); omega)); (apply ol_ld; exact rfl; exact rfl; exact rfl; (apply RdN.own; (focus ((repeat constructor); done)); (first | exact GetN.cons rfl GetN.nil | exact hg2))); (apply ol_as; exact rfl; exact rfl); (apply ol_nil))
          | (refine cw_draw (id := 12) 16 (.mv 0 (.mv 1 (.mv 2 (.mv 3 (.mv 4 (.mv 5 (.mv 6 (.mv 7 (.mv 8 (.mv 9 (.mv 10 (.mv 11 (.mv 12 (.mv 13 (.mv 14 (.mv 15 (PT.nil))))))))))))))))) mixed (by kernel_rfl) ?_; (apply od_mv; exact rfl; exact rfl; apply s_move; exact rfl); (apply od_mv; exact rfl; exact rfl; apply s_move; exact rfl); (apply od_mv; exact rfl; exact rfl; apply s_shrE; exact rfl; exact rfl; (first | decide | omega | (simp [IntKind.bits]; omega) | (simp [IntKind.bits]; done)); exact hsr); (apply od_mv; exact rfl; exact rfl; apply s_move; exact rfl); (apply od_mv; exact rfl; exact rfl; apply s_shrE; exact rfl; exact rfl; (first | decide | omega | (simp [IntKind.bits]; omega) | (simp [IntKind.bits]; done)); exact hsr); (apply od_mv; exact rfl; exact rfl; first | (apply s_addF; exact rfl; exact rfl; (first | (dsimp only [lowK, highK]; omega))) | (apply s_addW; exact rfl; exact rfl)); (apply od_mv; exact rfl; exact rfl; apply s_subS; exact rfl; (first | exact rfl | exact digS); (first | exact congrArg (fun z => some (Value.int .u8 z)) (show ((p1 : Nat) : Int) + 1 = ((p1 + 1 : Nat) : Int) from rfl) | exact congrArg (fun z => some (Value.int .u8 z)) (show ((p2 : Nat) : Int) + 1 = ((p2 + 1 : Nat) : Int) from rfl) | exact rfl); (first | exact congrArg (fun z => some (Value.int .u8 z)) (show ((p1 : Nat) : Int) + 1 = ((p1 + 1 : Nat) : Int) from rfl) | exact congrArg (fun z => some (Value.int .u8 z)) (show ((p2 : Nat) : Int) + 1 = ((p2 + 1 : Nat) : Int) from rfl) | exact rfl); exact us_9; (first | omega | (simp; omega) | (simp; done)); (first | omega | (exact (show _ ≤ 16 by omega)) | (rw [hA, hC]; simp only [List.length_append, List.length_cons, List.length_nil]; omega))); (apply od_mv; exact rfl; exact rfl; apply s_move; exact rfl); (apply od_mv; exact rfl; exact rfl; apply s_andE; exact rfl; exact rfl; exact hand); (apply od_mv; exact rfl; exact rfl; apply s_move; exact rfl); (apply od_mv; exact rfl; exact rfl; apply s_andE; exact rfl; exact rfl; exact hand); (apply od_mv; exact rfl; exact rfl; first | (apply s_addF; exact rfl; exact rfl; (first | (dsimp only [lowK, highK]; omega))) | (apply s_addW; exact rfl; exact rfl)); (apply od_mv; exact rfl; exact rfl; apply s_subS; exact rfl; (first | exact rfl | exact digS); (first | exact congrArg (fun z => some (Value.int .u8 z)) (show ((p1 : Nat) : Int) + 1 = ((p1 + 1 : Nat) : Int) from rfl) | exact congrArg (fun z => some (Value.int .u8 z)) (show ((p2 : Nat) : Int) + 1 = ((p2 + 1 : Nat) : Int) from rfl) | exact rfl); (first | exact congrArg (fun z => some (Value.int .u8 z)) (show ((p1 : Nat) : Int) + 1 = ((p1 + 1 : Nat) : Int) from rfl) | exact congrArg (fun z => some (Value.int .u8 z)) (show ((p2 : Nat) : Int) + 1 = ((p2 + 1 : Nat) : Int) from rfl) | exact rfl); exact us_9; (first | omega | (simp; omega) | (simp; done)); (first | omega | (exact (show _ ≤ 16 by omega)) | (rw [hA, hC]; simp only [List.length_append, List.length_cons, List.length_nil]; omega))); (apply od_mv; exact rfl; exact rfl; apply s_cat; exact rfl; exact rfl; (first | omega | (exact (show _ ≤ 16 by omega)) | (rw [hA, hC]; simp only [List.length_append, List.length_cons, List.length_nil]; omega))); (apply od_mv; exact rfl; exact rfl; apply s_cat; exact rfl; exact rfl; (first | omega | (exact (show _ ≤ 16 by omega)) | (rw [hA, hC]; simp only [List.length_append, List.length_cons, List.length_nil]; omega))); (apply od_mv; exact rfl; exact rfl; apply s_assign; exact rfl); (apply od_nil; (first | exact Wk.refl _ _ | (focus (apply Wk.mk; (first | exact View.le.refl _ | assumption | exact View.le.trans (by assumption) (by assumption)); (repeat constructor); done)))); (apply ol_nil))
          | (refine cw_region_id 13 ?_; (apply ol_val; exact rfl; apply stp_pur; apply s_add64; exact rfl; exact rfl; omega); (apply ol_mv; exact rfl; exact rfl); (apply ol_nil))
          | (apply cw_cond_true; exact rfl; (first | exact rfl | assumption))
          | (apply cw_cond_false; exact rfl; (first | exact rfl | assumption))
          | apply cw_skip
          | apply cw_ret
          | apply cw_block
          | apply cw_exit
        refine ⟨i + 1, ⟨?_, View.le.refl _, by (repeat (first | exact Pick.nil | (apply Pick.cons; (focus ((repeat (first | exact Spl.here | apply Spl.there)); done))) | exact Pick.refl)), hik, by omega⟩⟩
        rw [hst, ← hA, ← hC]
        (repeat (first | exact trivial | refine And.intro rfl ?_))
      · obtain rfl : i = 4 * k := by omega
        have htk : (bI (4 * k) N).take (4 * k) = bI (4 * k) N := List.take_of_length_le (by omega)
        rw [htk, hdr]
        repeat' first
          | apply cw_seq
          | (refine cw_region_id 10 ?_; (apply ol_val; exact rfl; apply stp_cmp; apply s_lss; exact rfl; exact rfl; all_goals (intro hc31; try (exfalso; (first | exact hc31 rfl | omega)))); all_goals (apply ol_nil))
          | (apply cw_cond_true; exact rfl; (first | exact rfl | assumption))
          | (apply cw_cond_false; exact rfl; (first | exact rfl | assumption))
          | apply cw_skip
          | apply cw_ret
          | apply cw_block
          | apply cw_exit
        have hN16 : N < 16 ^ (2 * (4 * k)) := by rw [Nat.pow_mul]; exact hN4
        refine cw_loopK (σ := Nat) [1] (by (repeat (first | exact Keep.nil | (apply Keep.cons; exact rfl)))) (fun j => [(5, .string (strOf (fixT 16 j N)))]) (fun _ => M) (fun _ => [⟨r1, flat (eK .u8) (bI (4 * k) N) ++ sp1, 5⟩, ⟨some bk1, [.slice a k c], 25⟩]) (fun j => (j ≤ 8 * k ∧ N < 16 ^ j) ∧ (k = 0 ∨ 0 < j)) (fun j => j) (2 * (4 * k)) (by (repeat (first | exact trivial | refine And.intro rfl ?_))) (View.le.refl _) (by (repeat (first | exact Pick.nil | (apply Pick.cons; (focus ((repeat (first | exact Spl.here | apply Spl.there)); done))) | exact Pick.refl))) ⟨⟨by omega, hN16⟩, by omega⟩ ?_
        rintro j ⟨⟨hj8, hj⟩, hjk⟩
        clear hN16 htk hdr hbx hsx eb kb so1
        have hFb := fixT_b (b := 16) (by decide) (by decide) j N
        have hFl := fixT_length 16 j N
        have hsz := strOf_size (fixT 16 j N)
        have hat := strOf_at (i := 0) hFb
        have hbe := strOf_beq (ys := []) hFb (by simp)
        have hbs : ((strOf (txt 16 N)).toList == (strOf (txt 16 N)).toList) = true := beq_self_eq_true _
        rw [← strE] at hbe
        by_cases h0 : j = 0
        · subst h0
          have hNz : N = 0 := by simpa using hj
          have e48 : strOf (txt 16 N) = (⟨#[48]⟩ : ByteArray) := by rw [hNz, str0]; unfold txt; rfl
          rw [decide_eq_true (List.eq_nil_of_length_eq_zero hFl)] at hbe
          rw [e48] at kh
          repeat' first
            | apply cw_seq
            | (refine cw_region_id 14 ?_; (apply ol_mv; exact rfl; exact rfl); (apply ol_val; exact rfl; apply stp_pur; apply s_len_string; exact rfl; exact rfl; exact rfl); (apply ol_val; exact rfl; apply stp_cmp; apply s_gtr; exact rfl; exact rfl; all_goals (intro hc52; try (exfalso; (first | exact hc52 rfl | omega)))); all_goals (apply ol_mv; exact rfl; exact rfl); all_goals (first | (apply ol_gskip; exact rfl; exact rfl; (first | exact rfl | assumption); exact rfl) | (apply ol_gval; exact rfl; exact rfl; exact rfl; (first | exact rfl | assumption); apply stp_pur; apply s_move; exact rfl)); all_goals (apply ol_gskip; exact rfl; exact rfl; (first | exact rfl | assumption); exact rfl); all_goals (first | (apply ol_gskip; exact rfl; exact rfl; (first | exact rfl | assumption); exact rfl) | (apply ol_gval; exact rfl; exact rfl; exact rfl; (first | exact rfl | assumption); apply stp_cmp; apply s_eql; exact rfl; exact rfl; all_goals (intro hc56; try (exfalso; (first | exact hc56 rfl | omega))))); all_goals (apply ol_val; exact rfl; apply stp_pur; first | (apply s_pick_t; exact rfl; (first | exact rfl | assumption); exact rfl) | (apply s_pick_f; exact rfl; (first | exact rfl | assumption); exact rfl)); all_goals (apply ol_nil))
            | (refine cw_region_id 16 ?_; (apply ol_mv; exact rfl; exact rfl); (apply ol_val; exact rfl; apply stp_pur; apply s_eqlStr; exact rfl; exact rfl); (apply ol_nil))
            | (refine cw_region_id 17 ?_; (apply ol_as; exact rfl; exact rfl); (apply ol_nil))
            | (refine cw_region_id 18 ?_; (apply ol_ldN; exact rfl; exact rfl; exact rfl; exact sz_25; (apply RdN.own; (focus ((repeat constructor); done)); (focus ((repeat (first | exact rfl | constructor)); done)))); (apply ol_val; exact rfl; apply s_callv; exact rfl; exact gf_13; (intro w' hw'; exact kh w' hw'.le)); (apply ol_mv; exact rfl; exact rfl); (apply ol_val; exact rfl; apply stp_pur; apply s_eqlStr; exact rfl; exact rfl); (apply ol_as; exact rfl; exact rfl); (apply ol_nil))
            | (apply cw_cond_true; exact rfl; (first | exact rfl | assumption))
            | (apply cw_cond_false; exact rfl; (first | exact rfl | assumption))
            | apply cw_skip
            | apply cw_ret
            | apply cw_block
            | apply cw_exit
          refine ends [] (RVal.tmp rfl RVal.nil) Pick.nil ?_
          exact congrArg Value.bool (beq_self_eq_true _)
        · obtain ⟨i, rfl⟩ : ∃ i, j = i + 1 := ⟨j - 1, by omega⟩
          have hcons := fixT_drop (j := i) (N := N)
          have hg0 : (fixT 16 (i + 1) N).getD 0 0 = chr (N / 16 ^ i % 16) := by rw [hcons]; rfl
          rw [hg0] at hat
          rw [decide_eq_false (fun h => by rw [h] at hFl; simp at hFl)] at hbe
          by_cases hz : 1 < i + 1 ∧ chr (N / 16 ^ i % 16) = 48
          · have hlt := fix_zero hj hz.2
            have hdrop : (fixT 16 (i + 1) N).drop 1 = fixT 16 i N := by rw [hcons]; rfl
            have hz2 := hz.2
            generalize chr (N / 16 ^ i % 16) = ch at *
            repeat' first
              | apply cw_seq
              | (refine cw_region_id 14 ?_; (apply ol_mv; exact rfl; exact rfl); (apply ol_val; exact rfl; apply stp_pur; apply s_len_string; exact rfl; exact rfl; exact rfl); (apply ol_val; exact rfl; apply stp_cmp; apply s_gtr; exact rfl; exact rfl; all_goals (intro hc52; try (exfalso; (first | exact hc52 rfl | omega)))); all_goals (apply ol_mv; exact rfl; exact rfl); all_goals (first | (apply ol_gskip; exact rfl; exact rfl; (first | exact rfl | assumption); exact rfl) | (apply ol_gval; exact rfl; exact rfl; exact rfl; (first | exact rfl | assumption); apply stp_pur; apply s_move; exact rfl)); all_goals (first | (apply ol_gskip; exact rfl; exact rfl; (first | exact rfl | assumption); exact rfl) | (apply ol_gval; exact rfl; exact rfl; exact rfl; (first | exact rfl | assumption); apply stp_pur; apply s_indexS; exact rfl; exact rfl; exact us_9; omega; exact hat)); all_goals (first | (apply ol_gskip; exact rfl; exact rfl; (first | exact rfl | assumption); exact rfl) | (apply ol_gval; exact rfl; exact rfl; exact rfl; (first | exact rfl | assumption); apply stp_cmp; apply s_eql; exact rfl; exact rfl; all_goals (intro hc56; try (exfalso; (first | exact hc56 rfl | omega))))); all_goals (apply ol_val; exact rfl; apply stp_pur; first | (apply s_pick_t; exact rfl; (first | exact rfl | assumption); exact rfl) | (apply s_pick_f; exact rfl; (first | exact rfl | assumption); exact rfl)); all_goals (apply ol_nil))
              | (refine cw_region_id 15 ?_; (apply ol_mv; exact rfl; exact rfl); (apply ol_val; exact rfl; apply stp_pur; apply s_dropS; exact rfl; exact rfl; exact (show _ = some (Value.int _ ((1 : Nat) : Int)) from rfl); exact us_9; (first | omega)); (apply ol_as; exact rfl; exact rfl); (apply ol_nil))
              | (apply cw_cond_true; exact rfl; (first | exact rfl | assumption))
              | (apply cw_cond_false; exact rfl; (first | exact rfl | assumption))
              | apply cw_skip
              | apply cw_ret
              | apply cw_block
              | apply cw_exit
            rw [hdrop]
            exact ⟨i, ⟨by (repeat (first | exact trivial | refine And.intro rfl ?_)), View.le.refl _, by (repeat (first | exact Pick.nil | (apply Pick.cons; (focus ((repeat (first | exact Spl.here | apply Spl.there)); done))) | exact Pick.refl)), ⟨⟨by omega, hlt⟩, by omega⟩, by omega⟩⟩
          · have hfin : fixT 16 (i + 1) N = txt 16 N := by
              by_cases hi0 : i = 0
              · subst hi0; exact fix_one hj
              · exact fix_top hj (fun h => hz ⟨by omega, h⟩)
            rw [hfin] at hsz hFl hat hbe ⊢
            generalize chr (N / 16 ^ i % 16) = ch at *
            repeat' first
              | apply cw_seq
              | (refine cw_region_id 14 ?_; (apply ol_mv; exact rfl; exact rfl); (apply ol_val; exact rfl; apply stp_pur; apply s_len_string; exact rfl; exact rfl; exact rfl); (apply ol_val; exact rfl; apply stp_cmp; apply s_gtr; exact rfl; exact rfl; all_goals (intro hc52; try (exfalso; (first | exact hc52 rfl | omega)))); all_goals (apply ol_mv; exact rfl; exact rfl); all_goals (first | (apply ol_gskip; exact rfl; exact rfl; (first | exact rfl | assumption); exact rfl) | (apply ol_gval; exact rfl; exact rfl; exact rfl; (first | exact rfl | assumption); apply stp_pur; apply s_move; exact rfl)); all_goals (first | (apply ol_gskip; exact rfl; exact rfl; (first | exact rfl | assumption); exact rfl) | (apply ol_gval; exact rfl; exact rfl; exact rfl; (first | exact rfl | assumption); apply stp_pur; apply s_indexS; exact rfl; exact rfl; exact us_9; omega; exact hat)); all_goals (first | (apply ol_gskip; exact rfl; exact rfl; (first | exact rfl | assumption); exact rfl) | (apply ol_gval; exact rfl; exact rfl; exact rfl; (first | exact rfl | assumption); apply stp_cmp; apply s_eql; exact rfl; exact rfl; all_goals (intro hc56; try (exfalso; (first | exact hc56 rfl | omega))))); all_goals (apply ol_val; exact rfl; apply stp_pur; first | (apply s_pick_t; exact rfl; (first | exact rfl | assumption); exact rfl) | (apply s_pick_f; exact rfl; (first | exact rfl | assumption); exact rfl)); all_goals (apply ol_nil))
              | (refine cw_region_id 16 ?_; (apply ol_mv; exact rfl; exact rfl); (apply ol_val; exact rfl; apply stp_pur; apply s_eqlStr; exact rfl; exact rfl); (apply ol_nil))
              | (refine cw_region_id 18 ?_; (apply ol_ldN; exact rfl; exact rfl; exact rfl; exact sz_25; (apply RdN.own; (focus ((repeat constructor); done)); (focus ((repeat (first | exact rfl | constructor)); done)))); (apply ol_val; exact rfl; apply s_callv; exact rfl; exact gf_13; (intro w' hw'; exact kh w' hw'.le)); (apply ol_mv; exact rfl; exact rfl); (apply ol_val; exact rfl; apply stp_pur; apply s_eqlStr; exact rfl; exact rfl); (apply ol_as; exact rfl; exact rfl); (apply ol_nil))
              | (apply cw_cond_true; exact rfl; (first | exact rfl | assumption))
              | (apply cw_cond_false; exact rfl; (first | exact rfl | assumption))
              | apply cw_skip
              | apply cw_ret
              | apply cw_block
              | apply cw_exit
            all_goals
              refine ends [] (RVal.tmp rfl RVal.nil) Pick.nil ?_
              exact congrArg Value.bool hbs
    · have hv1 : vd k N = false := by simpa using hv
      rw [hv1] at kv
      repeat' first
        | apply cw_seq
        | (refine cw_region_id 0 ?_; (apply ol_val; exact rfl; first | (apply s_boxN; exact rfl; intro bk1) | (apply s_box1; exact rfl; exact rfl; intro bk1)); (apply ol_as; exact rfl; exact rfl); (apply ol_nil))
        | (refine cw_region_id 1 ?_; (apply ol_val; exact rfl; apply s_callv; exact rfl; exact gf_9; (intro w' hw'; exact ka w' hw'.le)); (apply ol_val; exact rfl; apply stp_pur; first | (apply s_not_t; exact rfl; (first | exact rfl | assumption)) | (apply s_not_f; exact rfl; (first | exact rfl | assumption)) | (apply s_not; exact rfl)); (apply ol_nil))
        | (refine cw_region_id 3 ?_; (apply ol_ldN; exact rfl; exact rfl; exact rfl; exact sz_25; (apply RdN.own; (focus ((repeat constructor); done)); (focus ((repeat (first | exact rfl | constructor)); done)))); (apply ol_val; exact rfl; apply s_callv; exact rfl; exact gf_15; (intro w' hw'; exact kg w')); (apply ol_mv; exact rfl; exact rfl); (first | (apply ol_gskip; exact rfl; exact rfl; (first | exact rfl | assumption); exact rfl) | (apply ol_gval; exact rfl; exact rfl; exact rfl; (first | exact rfl | assumption); apply stp_pur; apply s_loadN; exact rfl; exact rfl; exact sz_25; (apply RdN.own; (focus ((repeat constructor); done)); (focus ((repeat (first | exact rfl | constructor)); done))))); (first | (apply ol_gskip; exact rfl; exact rfl; (first | exact rfl | assumption); exact rfl) | (apply ol_gval; exact rfl; exact rfl; exact rfl; (first | exact rfl | assumption); apply s_callv; exact rfl; exact gf_16; (intro w' hw'; exact kv w' hw'.le))); (first | (apply ol_gskip; exact rfl; exact rfl; (first | exact rfl | assumption); exact rfl) | (apply ol_gval; exact rfl; exact rfl; exact rfl; (first | exact rfl | assumption); apply stp_pur; first | (apply s_not_t; exact rfl; (first | exact rfl | assumption)) | (apply s_not_f; exact rfl; (first | exact rfl | assumption)) | (apply s_not; exact rfl))); (apply ol_val; exact rfl; apply stp_pur; first | (apply s_pick_t; exact rfl; (first | exact rfl | assumption); exact rfl) | (apply s_pick_f; exact rfl; (first | exact rfl | assumption); exact rfl)); (apply ol_nil))
        | (refine cw_region_id 4 ?_; (apply ol_as; exact rfl; exact rfl); (apply ol_nil))
        | (apply cw_cond_true; exact rfl; (first | exact rfl | assumption))
        | (apply cw_cond_false; exact rfl; (first | exact rfl | assumption))
        | apply cw_skip
        | apply cw_ret
        | apply cw_block
        | apply cw_exit
      refine ends [] (RVal.tmp rfl RVal.nil) Pick.nil ?_
      rfl
end Go.Proofs.YtjaeblkgjbncmaaDoor
