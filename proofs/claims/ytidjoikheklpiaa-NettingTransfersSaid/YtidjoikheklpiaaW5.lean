/-
  The walks of Bilateral.
-/
import Derived.Test.YtidjoikheklpiaaW4
namespace Go.Proofs.Ytidjoikheklpiaa
set_option maxRecDepth 20000
set_option linter.unusedSimpArgs false
set_option linter.unusedVariables false
open Go Go.Fw
attribute [local irreducible] CW OL OD FX Stp FnC Ret
set_option maxHeartbeats 8000000

def ow1 (a b : Int) (c : C3) : Int := if c.f = a ∧ c.t = b then c.a else 0
/-- What a owes b. -/
def owe (a b : Int) (l : List C3) : Int := (l.map (ow1 a b)).sum
theorem owe_snoc (a b : Int) (l : List C3) (c : C3) : owe a b (l ++ [c]) = owe a b l + ow1 a b c := by simp [owe]
theorem owe_step {l : List C3} {k : Nat} (hk : k < l.length) (a b : Int) : owe a b (l.take (k + 1)) = owe a b (l.take k) + ow1 a b l[k] := by rw [List.take_succ_eq_append_getElem hk, owe_snoc]
theorem owe_small {n : Int} {l : List C3} (h : ∀ x ∈ l, okC n 1099511627776 x = true) (a b : Int) : 0 ≤ owe a b l ∧ owe a b l ≤ 1099511627776 * (l.length : Int) := by
  induction l with
  | nil => simp [owe]
  | cons c l ih =>
    have h1 := okC_spec (h c (by simp))
    have h2 := ih fun y hy => h y (by simp [hy])
    have h3 : owe a b (c :: l) = ow1 a b c + owe a b l := by simp [owe]
    have h4 : 0 ≤ ow1 a b c ∧ ow1 a b c ≤ 1099511627776 := by
      unfold ow1
      split <;> omega
    simp only [List.length_cons]
    rw [h3]
    omega

theorem refOwes_spec {M : View} {w : World} (hM : View.le M (View.of w)) {l : List C3} {n : Int} (hc : claimsB n l = true) {i j : Int} {m : Nat} (hm : l.length = m) {a : Option Addr} {b o c : Nat} (s : SlA M C3.enc 3 a l b o) :
    FnC Try.prog 44 [.int .i64 i, .int .i64 j, .slice a m c] w (fun v _ => v = .int .i64 (owe i j l)) := by
  subst hm
  obtain ⟨g1, g2, g3, g4⟩ := claimsB_spec hc
  refine enterF (M := M) Try.func44 rfl rfl rfl rfl hM ?_
  repeat' first
    | apply cw_seq
    | (refine cw_region_id 0 ?_; (apply ol_as; exact rfl; exact rfl); (apply ol_nil))
    | (refine cw_region_id 1 ?_; (apply ol_as; exact rfl; exact rfl); (apply ol_nil))
    | (refine cw_region_id 2 ?_; (apply ol_as; exact rfl; exact rfl); (apply ol_nil))
    | (apply cw_cond_true; exact rfl; (first | exact rfl | assumption))
    | (apply cw_cond_false; exact rfl; (first | exact rfl | assumption))
    | apply cw_skip
    | apply cw_ret
    | apply cw_block
    | apply cw_exit
  refine cw_loopK (σ := Nat) [0, 1, 2] (by (repeat (first | exact Keep.nil | (apply Keep.cons; exact rfl)))) (fun k => [(7, .int .i64 (owe i j (l.take k))), (8, .int .i64 k)]) (fun _ => M) (fun _ => []) (fun k => k ≤ l.length) (fun k => l.length - k) 0 (by (repeat (first | exact trivial | refine And.intro rfl ?_))) (View.le.refl _) Pick.nil (by omega) ?_
  intro k hk
  have hsm := owe_small (l := l.take k) (fun x hx => g4 x (List.mem_of_mem_take hx)) i j
  rw [List.length_take, Nat.min_eq_left hk] at hsm
  by_cases hk' : k < l.length
  · have hx := okC_spec (g4 l[k] (List.getElem_mem _))
    have hst := owe_step hk' i j
    have m1 : l[k].f = i → l[k].t = j → ow1 i j l[k] = l[k].a := fun e e' => by unfold ow1; rw [if_pos ⟨e, e'⟩]
    have m2 : ¬ l[k].f = i → ow1 i j l[k] = 0 := fun e => by unfold ow1; rw [if_neg (fun h => e h.1)]
    have m3 : ¬ l[k].t = j → ow1 i j l[k] = 0 := fun e => by unfold ow1; rw [if_neg (fun h => e h.2)]
    repeat' first
      | apply cw_seq
      | (refine cw_region_id 3 ?_; (apply ol_mv; exact rfl; exact rfl); (apply ol_mv; exact rfl; exact rfl); (apply ol_val; exact rfl; apply stp_pur; apply s_len; exact rfl; exact el_45); (apply ol_val; exact rfl; apply stp_cmp; apply s_lss; exact rfl; exact rfl; all_goals (intro hc12; try (exfalso; (first | exact hc12 rfl | omega)))); all_goals (apply ol_nil))
      | (refine cw_region_id 5 ?_; (apply ol_mv; exact rfl; exact rfl); (apply ol_mv; exact rfl; exact rfl); (apply ol_val; exact rfl; apply stp_pur; first | (apply s_indexK; exact rfl; exact rfl; exact el_45; exact sz_57; (first | exact rfl | exact s.at_ (by omega)); omega) | (apply s_indexO; exact rfl; exact rfl; exact el_45; exact sz_57; (first | exact rfl | exact s.at_ (by omega)); omega)); (apply ol_fa; exact rfl; exact rfl; exact fd_57_0; (first | exact Nat.zero_add _ | exact Nat.add_zero _ | exact rfl)); (apply ol_ld; exact rfl; exact rfl; exact rfl; (first | (apply RdN.own; (focus ((repeat constructor); done)); (first | exact GetN.cons rfl GetN.nil | (apply getN_ints_app; (first | omega | (simp; omega) | (simp; done))) | (apply getN_ints; (first | omega | (simp; omega) | (simp; done))))) | (apply RdN.view; exact GetN.fld (s.cells k hk') 0 rfl) | (apply RdN.view; exact GetN.fld (s.cells k hk') 1 rfl) | (apply RdN.view; exact GetN.fld (s.cells k hk') 2 rfl))); (apply ol_mv; exact rfl; exact rfl); (apply ol_val; exact rfl; apply stp_cmp; apply s_eql; exact rfl; exact rfl; all_goals (intro hc21; try (exfalso; (first | exact hc21 rfl | omega)))); all_goals (apply ol_mv; exact rfl; exact rfl); all_goals (first | (apply ol_gskip; exact rfl; exact rfl; (first | exact rfl | assumption); exact rfl) | (apply ol_gval; exact rfl; exact rfl; exact rfl; (first | exact rfl | assumption); apply stp_pur; apply s_move; exact rfl)); all_goals (first | (apply ol_gskip; exact rfl; exact rfl; (first | exact rfl | assumption); exact rfl) | (apply ol_gval; exact rfl; exact rfl; exact rfl; (first | exact rfl | assumption); apply stp_pur; apply s_move; exact rfl)); all_goals (first | (apply ol_gskip; exact rfl; exact rfl; (first | exact rfl | assumption); exact rfl) | (apply ol_gval; exact rfl; exact rfl; exact rfl; (first | exact rfl | assumption); apply stp_pur; first | (apply s_indexK; exact rfl; exact rfl; exact el_45; exact sz_57; (first | exact rfl | exact s.at_ (by omega)); omega) | (apply s_indexO; exact rfl; exact rfl; exact el_45; exact sz_57; (first | exact rfl | exact s.at_ (by omega)); omega))); all_goals (first | (apply ol_gskip; exact rfl; exact rfl; (first | exact rfl | assumption); exact rfl) | (apply ol_gval; exact rfl; exact rfl; exact rfl; (first | exact rfl | assumption); apply stp_pur; apply s_fieldAddr'; exact rfl; exact fd_57_1; (first | exact Nat.zero_add _ | exact Nat.add_zero _ | exact rfl))); all_goals (first | (apply ol_gskip; exact rfl; exact rfl; (first | exact rfl | assumption); exact rfl) | (apply ol_gval; exact rfl; exact rfl; exact rfl; (first | exact rfl | assumption); apply stp_pur; apply s_load1; exact rfl; exact rfl; (first | (apply RdN.own; (focus ((repeat constructor); done)); (first | exact GetN.cons rfl GetN.nil | (apply getN_ints_app; (first | omega | (simp; omega) | (simp; done))) | (apply getN_ints; (first | omega | (simp; omega) | (simp; done))))) | (apply RdN.view; exact GetN.fld (s.cells k hk') 0 rfl) | (apply RdN.view; exact GetN.fld (s.cells k hk') 1 rfl) | (apply RdN.view; exact GetN.fld (s.cells k hk') 2 rfl)))); all_goals (first | (apply ol_gskip; exact rfl; exact rfl; (first | exact rfl | assumption); exact rfl) | (apply ol_gval; exact rfl; exact rfl; exact rfl; (first | exact rfl | assumption); apply stp_pur; apply s_move; exact rfl)); all_goals (first | (apply ol_gskip; exact rfl; exact rfl; (first | exact rfl | assumption); exact rfl) | (apply ol_gval; exact rfl; exact rfl; exact rfl; (first | exact rfl | assumption); apply stp_cmp; apply s_eql; exact rfl; exact rfl; all_goals (intro hc29; try (exfalso; (first | exact hc29 rfl | omega))))); all_goals (apply ol_val; exact rfl; apply stp_pur; first | (apply s_pick_t; exact rfl; (first | exact rfl | assumption); exact rfl) | (apply s_pick_f; exact rfl; (first | exact rfl | assumption); exact rfl)); all_goals (apply ol_nil))
      | (refine cw_region_id 6 ?_; (apply ol_mv; exact rfl; exact rfl); (apply ol_mv; exact rfl; exact rfl); (apply ol_mv; exact rfl; exact rfl); (apply ol_val; exact rfl; apply stp_pur; first | (apply s_indexK; exact rfl; exact rfl; exact el_45; exact sz_57; (first | exact rfl | exact s.at_ (by omega)); omega) | (apply s_indexO; exact rfl; exact rfl; exact el_45; exact sz_57; (first | exact rfl | exact s.at_ (by omega)); omega)); (apply ol_fa; exact rfl; exact rfl; exact fd_57_2; (first | exact Nat.zero_add _ | exact Nat.add_zero _ | exact rfl)); (apply ol_ld; exact rfl; exact rfl; exact rfl; (first | (apply RdN.own; (focus ((repeat constructor); done)); (first | exact GetN.cons rfl GetN.nil | (apply getN_ints_app; (first | omega | (simp; omega) | (simp; done))) | (apply getN_ints; (first | omega | (simp; omega) | (simp; done))))) | (apply RdN.view; exact GetN.fld (s.cells k hk') 0 rfl) | (apply RdN.view; exact GetN.fld (s.cells k hk') 1 rfl) | (apply RdN.view; exact GetN.fld (s.cells k hk') 2 rfl))); (apply ol_val; exact rfl; apply stp_pur; apply s_add64; exact rfl; exact rfl; omega); (apply ol_as; exact rfl; exact rfl); (apply ol_nil))
      | (refine cw_region_id 4 ?_; (apply ol_mv; exact rfl; exact rfl); (apply ol_val; exact rfl; apply stp_pur; apply s_add64; exact rfl; exact rfl; omega); (apply ol_as; exact rfl; exact rfl); (apply ol_nil))
      | (refine cw_region_id 7 ?_; (apply ol_mv; exact rfl; exact rfl); (apply ol_as; exact rfl; exact rfl); (apply ol_nil))
      | (apply cw_cond_true; exact rfl; (first | exact rfl | assumption))
      | (apply cw_cond_false; exact rfl; (first | exact rfl | assumption))
      | apply cw_skip
      | apply cw_ret
      | apply cw_block
      | apply cw_exit
    all_goals
      refine ⟨k + 1, ⟨?_, View.le.refl _, Pick.nil, hk', by omega⟩⟩
      rw [hst]
      first
        | (rw [m1 (by assumption) (by assumption)]; (repeat (first | exact trivial | refine And.intro rfl ?_)); done)
        | (rw [m2 (by assumption), Int.add_zero]; (repeat (first | exact trivial | refine And.intro rfl ?_)); done)
        | (rw [m3 (by assumption), Int.add_zero]; (repeat (first | exact trivial | refine And.intro rfl ?_)); done)
  · have : k = l.length := by omega
    subst this
    rw [List.take_length]
    repeat' first
      | apply cw_seq
      | (refine cw_region_id 3 ?_; (apply ol_mv; exact rfl; exact rfl); (apply ol_mv; exact rfl; exact rfl); (apply ol_val; exact rfl; apply stp_pur; apply s_len; exact rfl; exact el_45); (apply ol_val; exact rfl; apply stp_cmp; apply s_lss; exact rfl; exact rfl; all_goals (intro hc12; try (exfalso; (first | exact hc12 rfl | omega)))); all_goals (apply ol_nil))
      | (refine cw_region_id 5 ?_; (apply ol_mv; exact rfl; exact rfl); (apply ol_mv; exact rfl; exact rfl); (apply ol_val; exact rfl; apply stp_pur; first | (apply s_indexK; exact rfl; exact rfl; exact el_45; exact sz_57; (first | exact rfl); omega) | (apply s_indexO; exact rfl; exact rfl; exact el_45; exact sz_57; (first | exact rfl); omega)); (apply ol_fa; exact rfl; exact rfl; exact fd_57_0; (first | exact Nat.zero_add _ | exact Nat.add_zero _ | exact rfl)); (apply ol_ld; exact rfl; exact rfl; exact rfl; (apply RdN.own; (focus ((repeat constructor); done)); (first | exact GetN.cons rfl GetN.nil | (apply getN_ints_app; (first | omega | (simp; omega) | (simp; done))) | (apply getN_ints; (first | omega | (simp; omega) | (simp; done)))))); (apply ol_mv; exact rfl; exact rfl); (apply ol_val; exact rfl; apply stp_cmp; apply s_eql; exact rfl; exact rfl; all_goals (intro hc21; try (exfalso; (first | exact hc21 rfl | omega)))); all_goals (apply ol_mv; exact rfl; exact rfl); all_goals (first | (apply ol_gskip; exact rfl; exact rfl; (first | exact rfl | assumption); exact rfl) | (apply ol_gval; exact rfl; exact rfl; exact rfl; (first | exact rfl | assumption); apply stp_pur; apply s_move; exact rfl)); all_goals (first | (apply ol_gskip; exact rfl; exact rfl; (first | exact rfl | assumption); exact rfl) | (apply ol_gval; exact rfl; exact rfl; exact rfl; (first | exact rfl | assumption); apply stp_pur; apply s_move; exact rfl)); all_goals (first | (apply ol_gskip; exact rfl; exact rfl; (first | exact rfl | assumption); exact rfl) | (apply ol_gval; exact rfl; exact rfl; exact rfl; (first | exact rfl | assumption); apply stp_pur; first | (apply s_indexK; exact rfl; exact rfl; exact el_45; exact sz_57; (first | exact rfl); omega) | (apply s_indexO; exact rfl; exact rfl; exact el_45; exact sz_57; (first | exact rfl); omega))); all_goals (first | (apply ol_gskip; exact rfl; exact rfl; (first | exact rfl | assumption); exact rfl) | (apply ol_gval; exact rfl; exact rfl; exact rfl; (first | exact rfl | assumption); apply stp_pur; apply s_fieldAddr'; exact rfl; exact fd_57_1; (first | exact Nat.zero_add _ | exact Nat.add_zero _ | exact rfl))); all_goals (first | (apply ol_gskip; exact rfl; exact rfl; (first | exact rfl | assumption); exact rfl) | (apply ol_gval; exact rfl; exact rfl; exact rfl; (first | exact rfl | assumption); apply stp_pur; apply s_load1; exact rfl; exact rfl; (apply RdN.own; (focus ((repeat constructor); done)); (first | exact GetN.cons rfl GetN.nil | (apply getN_ints_app; (first | omega | (simp; omega) | (simp; done))) | (apply getN_ints; (first | omega | (simp; omega) | (simp; done))))))); all_goals (first | (apply ol_gskip; exact rfl; exact rfl; (first | exact rfl | assumption); exact rfl) | (apply ol_gval; exact rfl; exact rfl; exact rfl; (first | exact rfl | assumption); apply stp_pur; apply s_move; exact rfl)); all_goals (first | (apply ol_gskip; exact rfl; exact rfl; (first | exact rfl | assumption); exact rfl) | (apply ol_gval; exact rfl; exact rfl; exact rfl; (first | exact rfl | assumption); apply stp_cmp; apply s_eql; exact rfl; exact rfl; all_goals (intro hc29; try (exfalso; (first | exact hc29 rfl | omega))))); all_goals (apply ol_val; exact rfl; apply stp_pur; first | (apply s_pick_t; exact rfl; (first | exact rfl | assumption); exact rfl) | (apply s_pick_f; exact rfl; (first | exact rfl | assumption); exact rfl)); all_goals (apply ol_nil))
      | (refine cw_region_id 6 ?_; (apply ol_mv; exact rfl; exact rfl); (apply ol_mv; exact rfl; exact rfl); (apply ol_mv; exact rfl; exact rfl); (apply ol_val; exact rfl; apply stp_pur; first | (apply s_indexK; exact rfl; exact rfl; exact el_45; exact sz_57; (first | exact rfl); omega) | (apply s_indexO; exact rfl; exact rfl; exact el_45; exact sz_57; (first | exact rfl); omega)); (apply ol_fa; exact rfl; exact rfl; exact fd_57_2; (first | exact Nat.zero_add _ | exact Nat.add_zero _ | exact rfl)); (apply ol_ld; exact rfl; exact rfl; exact rfl; (apply RdN.own; (focus ((repeat constructor); done)); (first | exact GetN.cons rfl GetN.nil | (apply getN_ints_app; (first | omega | (simp; omega) | (simp; done))) | (apply getN_ints; (first | omega | (simp; omega) | (simp; done)))))); (apply ol_val; exact rfl; apply stp_pur; apply s_add64; exact rfl; exact rfl; omega); (apply ol_as; exact rfl; exact rfl); (apply ol_nil))
      | (refine cw_region_id 4 ?_; (apply ol_mv; exact rfl; exact rfl); (apply ol_val; exact rfl; apply stp_pur; apply s_add64; exact rfl; exact rfl; omega); (apply ol_as; exact rfl; exact rfl); (apply ol_nil))
      | (refine cw_region_id 7 ?_; (apply ol_mv; exact rfl; exact rfl); (apply ol_as; exact rfl; exact rfl); (apply ol_nil))
      | (apply cw_cond_true; exact rfl; (first | exact rfl | assumption))
      | (apply cw_cond_false; exact rfl; (first | exact rfl | assumption))
      | apply cw_skip
      | apply cw_ret
      | apply cw_block
      | apply cw_exit
    refine ends [] (RVal.tmp rfl RVal.nil) Pick.nil ?_
    rfl

/-- All that each owes each. -/
def oweM (l : List C3) : List Int := (List.range 64).map fun (i : Nat) => owe ((i / 8 : Nat) : Int) ((i % 8 : Nat) : Int) l
theorem oweM_length (l : List C3) : (oweM l).length = 64 := by simp [oweM]
theorem oweM_get {l : List C3} {a b : Nat} (ha : a < 8) (hb : b < 8) : (oweM l).getD (a * 8 + b) 0 = owe a b l := by
  have h : a * 8 + b < 64 := by omega
  have e1 : (a * 8 + b) / 8 = a := by omega
  have e2 : (a * 8 + b) % 8 = b := by omega
  simp only [oweM, List.getD, List.getElem?_map, List.getElem?_range h, Option.map_some, Option.getD_some, e1, e2]
theorem oweM_step {n : Int} {l : List C3} {c : C3} (h : okC n 1099511627776 c = true) (hn : n ≤ 8) : (oweM l).set (c.f.toNat * 8 + c.t.toNat) ((oweM l).getD (c.f.toNat * 8 + c.t.toNat) 0 + c.a) = oweM (l ++ [c]) := by
  have hx := okC_spec h
  refine ext_getD (by simp [oweM]) fun i hi => ?_
  rw [List.length_set, oweM_length] at hi
  have hi1 : i / 8 < 8 := by omega
  have hi2 : i % 8 < 8 := by omega
  have ei : i = i / 8 * 8 + i % 8 := by omega
  rw [getD_set, oweM_length, ei, oweM_get hi1 hi2, oweM_get hi1 hi2, owe_snoc, oweM_get (by omega) (by omega)]
  unfold ow1
  by_cases e : c.f.toNat * 8 + c.t.toNat = i / 8 * 8 + i % 8
  · have e1 : c.f.toNat = i / 8 := by omega
    have e2 : c.t.toNat = i % 8 := by omega
    have e3 : c.f = ((i / 8 : Nat) : Int) := by omega
    have e4 : c.t = ((i % 8 : Nat) : Int) := by omega
    rw [if_pos ⟨e, by omega⟩, if_pos ⟨e3, e4⟩, e1, e2]
  · rw [if_neg (fun h => e h.1), if_neg]
    · omega
    · intro h
      apply e
      omega

/-- A pair, netted. -/
def bil1 (l : List C3) (p : Nat × Nat) : List C3 :=
  let d := owe p.1 p.2 l - owe p.2 p.1 l
  if d = 0 then [] else if d < 0 then [⟨p.2, p.1, -d⟩] else [⟨p.1, p.2, d⟩]
def bilS (l : List C3) (p : Nat × Nat) : Bool := decide (owe p.1 p.2 l - owe p.2 p.1 l ≤ 1099511627776 ∧ -1099511627776 ≤ owe p.1 p.2 l - owe p.2 p.1 l)
def rowP (a b : Nat) : List (Nat × Nat) := (List.range' (a + 1) (b - (a + 1))).map fun x => (a, x)
def allP (n a : Nat) : List (Nat × Nat) := (List.range a).flatMap fun i => rowP i n
theorem rowP_nil (a : Nat) : rowP a (a + 1) = [] := by simp [rowP]
theorem rowP_succ {a b : Nat} (h : a + 1 ≤ b) : rowP a (b + 1) = rowP a b ++ [(a, b)] := by
  unfold rowP
  rw [show b + 1 - (a + 1) = (b - (a + 1)) + 1 by omega, List.range'_concat, List.map_append]
  congr 1
  simp
  omega
theorem allP_succ (n a : Nat) : allP n (a + 1) = allP n a ++ rowP a n := by simp [allP, List.range_succ]
theorem mem_rowP {a b x y : Nat} : (x, y) ∈ rowP a b ↔ x = a ∧ a + 1 ≤ y ∧ y < b := by
  unfold rowP
  simp only [List.mem_map, List.mem_range'_1, Prod.mk.injEq]
  constructor
  · rintro ⟨z, ⟨h1, h2⟩, rfl, rfl⟩
    omega
  · rintro ⟨rfl, h1, h2⟩
    exact ⟨y, by omega, rfl, rfl⟩
theorem mem_allP {n a x y : Nat} : (x, y) ∈ allP n a ↔ x < a ∧ x + 1 ≤ y ∧ y < n := by
  unfold allP
  simp only [List.mem_flatMap, List.mem_range, mem_rowP]
  constructor
  · rintro ⟨i, h1, rfl, h2⟩
    omega
  · rintro ⟨h1, h2⟩
    exact ⟨x, h1, rfl, h2⟩
def bilL (l : List C3) (ps : List (Nat × Nat)) : List C3 := ps.flatMap (bil1 l)
theorem bilL_append (l : List C3) (ps qs : List (Nat × Nat)) : bilL l (ps ++ qs) = bilL l ps ++ bilL l qs := by simp [bilL]
/-- The claims after netting each pair, and whether all are small enough. -/
def Bil (n : Nat) (l : List C3) : List C3 × Bool := if (allP n n).all (bilS l) = true then (bilL l (allP n n), true) else ([], false)
theorem Bil_false {n : Nat} {l : List C3} {a b : Nat} (ha : a < n) (hb : a + 1 ≤ b) (hbn : b < n) (h : bilS l (a, b) = false) : Bil n l = ([], false) := by
  unfold Bil
  rw [if_neg]
  intro hall
  have := List.all_eq_true.1 hall (a, b) (mem_allP.2 ⟨ha, hb, hbn⟩)
  rw [h] at this
  cases this

structure BL where
  b : Nat
  out : List C3
  r : Option Nat
  A : Option Addr
  c : Nat
  sp : List Value

theorem bilateral_spec {M : View} {w : World} (hM : View.le M (View.of w)) {l : List C3} {n : Int} {m : Nat} (hm : l.length = m) {xs : List C3} {e : Int}
    (hr : (if claimsB n l = true then (if (Bil n.toNat l).2 = true then ((Bil n.toNat l).1, (0 : Int)) else ([], 9)) else ([], 1)) = (xs, e)) {a : Option Addr} {b o c : Nat} (s : SlA M C3.enc 3 a l b o) (hl : l.length ≤ 4611686018427387904) :
    FnC Try.prog 23 [.int .i64 n, .slice a m c] w (Row2 C3.enc 3 57 xs (.int .i64 e)) := by
  subst hm
  refine enterF (M := M) Try.func23 rfl rfl rfl rfl hM ?_
  refine cw_none 57 ?_
  refine cw_none 57 ?_
  cases hc : claimsB n l with
  | false =>
    rw [hc] at hr
    obtain ⟨rfl, rfl⟩ := Prod.mk.inj hr
    repeat' first
      | apply cw_seq
      | (refine cw_region_id 0 ?_; (apply ol_as; exact rfl; exact rfl); (apply ol_as; exact rfl; exact rfl); (apply ol_nil))
      | (refine cw_region_id 1 ?_; (apply ol_mv; exact rfl; exact rfl); (apply ol_mv; exact rfl; exact rfl); (apply ol_val; exact rfl; apply s_callv; exact rfl; exact gf_42; (intro w' hw'; exact claims_spec (View.le.refl (View.of w')) rfl hc (s.mono hw'.le) hl)); (apply ol_val; exact rfl; apply stp_pur; first | (apply s_not_t; exact rfl; (first | exact rfl | assumption)) | (apply s_not_f; exact rfl; (first | exact rfl | assumption)) | (apply s_not; exact rfl)); (apply ol_nil))
      | (refine cw_region_id 2 ?_; (apply ol_as; exact rfl; exact rfl); (apply ol_as; exact rfl; exact rfl); (apply ol_nil))
      | (refine cw_region_id 3 ?_; (apply ol_val; exact rfl; apply s_alloc; exact zb_68; (focus ((repeat constructor); done)); intro bk6); (apply ol_nil))
      | (refine cw_region_id 4 ?_; (apply ol_mv; exact rfl; exact rfl); (apply ol_val; exact rfl; apply stp_pur; apply s_len; exact rfl; exact el_45); (apply ol_mv; exact rfl; exact rfl); (apply ol_nil))
      | (apply cw_cond_true; exact rfl; (first | exact rfl | assumption))
      | (apply cw_cond_false; exact rfl; (first | exact rfl | assumption))
      | apply cw_skip
      | apply cw_ret
      | apply cw_block
      | apply cw_exit
    refine ends [⟨none, [], 57⟩] (RVal.tmp rfl (RVal.tmp rfl RVal.nil)) (by (repeat (first | exact Pick.nil | (apply Pick.cons; (focus ((repeat (first | exact Spl.here | apply Spl.there)); done))) | exact Pick.refl))) ?_
    exact Row2.zero _ _ _ _
  | true =>
    rw [hc, if_pos rfl] at hr
    obtain ⟨g1, g2, g3, g4⟩ := claimsB_spec hc
    obtain ⟨N, rfl⟩ := Int.eq_ofNat_of_zero_le (show 0 ≤ n by omega)
    rw [show ((N : Int)).toNat = N from rfl] at hr
    repeat' first
      | apply cw_seq
      | (refine cw_region_id 0 ?_; (apply ol_as; exact rfl; exact rfl); (apply ol_as; exact rfl; exact rfl); (apply ol_nil))
      | (refine cw_region_id 1 ?_; (apply ol_mv; exact rfl; exact rfl); (apply ol_mv; exact rfl; exact rfl); (apply ol_val; exact rfl; apply s_callv; exact rfl; exact gf_42; (intro w' hw'; exact claims_spec (View.le.refl (View.of w')) rfl hc (s.mono hw'.le) hl)); (apply ol_val; exact rfl; apply stp_pur; first | (apply s_not_t; exact rfl; (first | exact rfl | assumption)) | (apply s_not_f; exact rfl; (first | exact rfl | assumption)) | (apply s_not; exact rfl)); (apply ol_nil))
      | (refine cw_region_id 2 ?_; (apply ol_as; exact rfl; exact rfl); (apply ol_as; exact rfl; exact rfl); (apply ol_nil))
      | (refine cw_region_id 3 ?_; (apply ol_val; exact rfl; apply s_alloc; exact zb_68; (focus ((repeat constructor); done)); intro bk6); (apply ol_nil))
      | (refine cw_region_id 4 ?_; (apply ol_mv; exact rfl; exact rfl); (apply ol_val; exact rfl; apply stp_pur; apply s_len; exact rfl; exact el_45); (apply ol_mv; exact rfl; exact rfl); (apply ol_nil))
      | (apply cw_cond_true; exact rfl; (first | exact rfl | assumption))
      | (apply cw_cond_false; exact rfl; (first | exact rfl | assumption))
      | apply cw_skip
      | apply cw_ret
      | apply cw_block
      | apply cw_exit
    refine cw_loopK (σ := Nat) [0, 6, 18, 19] (by (repeat (first | exact Keep.nil | (apply Keep.cons; exact rfl)))) (fun k => [(20, .int .i64 k)]) (fun _ => M) (fun k => [⟨some bk6, ints (oweM (l.take k)), 68⟩, ⟨none, [], 57⟩, ⟨none, [], 57⟩]) (fun k => k ≤ l.length) (fun k => l.length - k) 0 (by (repeat (first | exact trivial | refine And.intro rfl ?_))) (View.le.refl _) (by rw [show ints (oweM (l.take 0)) = List.replicate 64 (.int .i64 0) from rfl]; (repeat (first | exact Pick.nil | (apply Pick.cons; (focus ((repeat (first | exact Spl.here | apply Spl.there)); done))) | exact Pick.refl))) (by omega) ?_
    intro k hk
    by_cases hk' : k < l.length
    · have hok := g4 l[k] (List.getElem_mem _)
      have hx := okC_spec hok
      have hst : oweM (l.take (k + 1)) = (oweM (l.take k)).set (l[k].f.toNat * 8 + l[k].t.toNat) ((oweM (l.take k)).getD (l[k].f.toNat * 8 + l[k].t.toNat) 0 + l[k].a) := by rw [List.take_succ_eq_append_getElem hk', oweM_step hok g2]
      have hsm := owe_small (l := l.take k) (fun x hx => g4 x (List.mem_of_mem_take hx)) (l[k].f.toNat : Nat) (l[k].t.toNat : Nat)
      rw [List.length_take, Nat.min_eq_left hk, ← oweM_get (by omega) (by omega)] at hsm
      have sc := s.cells k hk'
      have hlen := oweM_length (l.take k)
      generalize l[k] = c0 at *
      generalize oweM (l.take k) = P at *
      repeat' first
        | apply cw_seq
        | (refine cw_region_id 5 ?_; (apply ol_val; exact rfl; apply stp_cmp; apply s_lss; exact rfl; exact rfl; all_goals (intro hc21; try (exfalso; (first | exact hc21 rfl | omega)))); all_goals (apply ol_nil))
        | (refine cw_region_id 6 ?_; (apply ol_val; exact rfl; apply stp_pur; first | (apply s_indexK; exact rfl; exact rfl; exact el_45; exact sz_57; (first | exact rfl | exact s.at_ (by omega)); omega) | (apply s_indexO; exact rfl; exact rfl; exact el_45; exact sz_57; (first | exact rfl | exact s.at_ (by omega)); omega)); (apply ol_ldN; exact rfl; exact rfl; exact rfl; exact sz_57; (first | (apply RdN.own; (focus ((repeat constructor); done)); (focus ((repeat (first | exact rfl | constructor)); done))) | (apply RdN.view; exact sc))); (apply ol_val; exact rfl; apply s_alloc; exact zb_57; (focus ((repeat constructor); done)); intro bk8); (apply ol_eff; apply s_storeN; exact rfl; exact rfl; exact sz_57; exact rfl; exact rfl; (focus ((repeat constructor); done)); (focus ((repeat constructor); done))); (apply ol_nil))
        | (refine cw_draw (id := 7) 12 (.mv 0 (.mv 1 (.mv 2 (.mv 3 (.mv 4 (.mv 5 (.mv 6 (.mv 7 (.mv 8 (.mv 9 (.mv 10 (.mv 11 (PT.nil))))))))))))) mixed (by kernel_rfl) ?_; (apply od_mv; exact rfl; exact rfl; apply s_fieldAddr'; exact rfl; exact fd_57_0; (first | exact Nat.zero_add _ | exact Nat.add_zero _ | exact rfl)); (apply od_mv; exact rfl; exact rfl; apply s_load1; exact rfl; exact rfl; (first | (apply RdN.own; (focus ((repeat constructor); done)); (first | exact GetN.cons rfl GetN.nil | (apply getN_intsAt (k := c0.f.toNat * 8 + c0.t.toNat); omega; omega))) | (apply RdN.view; exact sc))); (apply od_mv; exact rfl; exact rfl; apply s_fieldAddr'; exact rfl; exact fd_57_1; (first | exact Nat.zero_add _ | exact Nat.add_zero _ | exact rfl)); (apply od_mv; exact rfl; exact rfl; apply s_load1; exact rfl; exact rfl; (first | (apply RdN.own; (focus ((repeat constructor); done)); (first | exact GetN.cons rfl GetN.nil | (apply getN_intsAt (k := c0.f.toNat * 8 + c0.t.toNat); omega; omega))) | (apply RdN.view; exact sc))); (apply od_mv; exact rfl; exact rfl; first | (apply s_indexAK; exact rfl; exact rfl; exact ar_68; exact sz_67; omega) | (apply s_indexAO; exact rfl; exact rfl; exact ar_68; exact sz_67; omega)); (apply od_mv; exact rfl; exact rfl; first | (apply s_indexAK; exact rfl; exact rfl; exact ar_67; exact sz_3; omega) | (apply s_indexAO; exact rfl; exact rfl; exact ar_67; exact sz_3; omega)); (apply od_mv; exact rfl; exact rfl; apply s_load1; exact rfl; exact rfl; (first | (apply RdN.own; (focus ((repeat constructor); done)); (first | exact GetN.cons rfl GetN.nil | (apply getN_intsAt (k := c0.f.toNat * 8 + c0.t.toNat); omega; omega))) | (apply RdN.view; exact sc))); (apply od_mv; exact rfl; exact rfl; apply s_fieldAddr'; exact rfl; exact fd_57_2; (first | exact Nat.zero_add _ | exact Nat.add_zero _ | exact rfl)); (apply od_mv; exact rfl; exact rfl; apply s_load1; exact rfl; exact rfl; (first | (apply RdN.own; (focus ((repeat constructor); done)); (first | exact GetN.cons rfl GetN.nil | (apply getN_intsAt (k := c0.f.toNat * 8 + c0.t.toNat); omega; omega))) | (apply RdN.view; exact sc))); (apply od_mv; exact rfl; exact rfl; apply s_add64; exact rfl; exact rfl; omega); (apply od_mv; exact rfl; exact rfl; first | (apply s_indexAK; exact rfl; exact rfl; exact ar_68; exact sz_67; omega) | (apply s_indexAO; exact rfl; exact rfl; exact ar_68; exact sz_67; omega)); (apply od_mv; exact rfl; exact rfl; first | (apply s_indexAK; exact rfl; exact rfl; exact ar_67; exact sz_3; omega) | (apply s_indexAO; exact rfl; exact rfl; exact ar_67; exact sz_3; omega)); (apply od_nil; (first | exact Wk.refl _ _ | (focus (apply Wk.mk; exact View.le.refl _; (repeat constructor); done)))); (apply ol_eff; apply s_store1; exact rfl; exact rfl; exact sz_3; exact rfl; (focus ((repeat constructor); done)); (first | (focus ((repeat constructor); done)) | (apply setAt_ints_app; (first | omega | (simp; omega) | (simp; done))) | (apply setAt_ints; (first | omega | (simp; omega) | (simp; done))) | (apply setAt_intsAt (k := c0.f.toNat * 8 + c0.t.toNat); omega; omega) | (apply SetAt.set; (first | omega | (simp; omega) | (simp; done))))); (apply ol_nil))
        | (refine cw_region_id 8 ?_; (apply ol_val; exact rfl; apply stp_pur; apply s_add64; exact rfl; exact rfl; omega); (apply ol_mv; exact rfl; exact rfl); (apply ol_nil))
        | (refine cw_region_id 9 ?_; (apply ol_as; exact rfl; exact rfl); (apply ol_nil))
        | (refine cw_region_id 10 ?_; (apply ol_mv; exact rfl; exact rfl); (apply ol_mv; exact rfl; exact rfl); (apply ol_nil))
        | (apply cw_cond_true; exact rfl; (first | exact rfl | assumption))
        | (apply cw_cond_false; exact rfl; (first | exact rfl | assumption))
        | apply cw_skip
        | apply cw_ret
        | apply cw_block
        | apply cw_exit
      refine ⟨k + 1, ⟨by (repeat (first | exact trivial | refine And.intro rfl ?_)), View.le.refl _, ?_, hk', by omega⟩⟩
      rw [hst]
      (repeat (first | exact Pick.nil | (apply Pick.cons; (focus ((repeat (first | exact Spl.here | apply Spl.there)); done))) | exact Pick.refl))
    · have : k = l.length := by omega
      subst this
      rw [List.take_length]
      repeat' first
        | apply cw_seq
        | (refine cw_region_id 5 ?_; (apply ol_val; exact rfl; apply stp_cmp; apply s_lss; exact rfl; exact rfl; all_goals (intro hc21; try (exfalso; (first | exact hc21 rfl | omega)))); all_goals (apply ol_nil))
        | (refine cw_region_id 6 ?_; (apply ol_val; exact rfl; apply stp_pur; first | (apply s_indexK; exact rfl; exact rfl; exact el_45; exact sz_57; (first | exact rfl); omega) | (apply s_indexO; exact rfl; exact rfl; exact el_45; exact sz_57; (first | exact rfl); omega)); (apply ol_ldN; exact rfl; exact rfl; exact rfl; exact sz_57; (apply RdN.own; (focus ((repeat constructor); done)); (focus ((repeat (first | exact rfl | constructor)); done)))); (apply ol_val; exact rfl; apply s_alloc; exact zb_57; (focus ((repeat constructor); done)); intro bk8); (apply ol_eff; apply s_storeN; exact rfl; exact rfl; exact sz_57; exact rfl; exact rfl; (focus ((repeat constructor); done)); (focus ((repeat constructor); done))); (apply ol_nil))
        | (refine cw_draw (id := 7) 12 (.mv 0 (.mv 1 (.mv 2 (.mv 3 (.mv 4 (.mv 5 (.mv 6 (.mv 7 (.mv 8 (.mv 9 (.mv 10 (.mv 11 (PT.nil))))))))))))) mixed (by kernel_rfl) ?_; (apply od_mv; exact rfl; exact rfl; apply s_fieldAddr'; exact rfl; exact fd_57_0; (first | exact Nat.zero_add _ | exact Nat.add_zero _ | exact rfl)); (apply od_mv; exact rfl; exact rfl; apply s_load1; exact rfl; exact rfl; (apply RdN.own; (focus ((repeat constructor); done)); (first | exact GetN.cons rfl GetN.nil | (apply getN_ints_app; (first | omega | (simp; omega) | (simp; done))) | (apply getN_ints; (first | omega | (simp; omega) | (simp; done)))))); (apply od_mv; exact rfl; exact rfl; apply s_fieldAddr'; exact rfl; exact fd_57_1; (first | exact Nat.zero_add _ | exact Nat.add_zero _ | exact rfl)); (apply od_mv; exact rfl; exact rfl; apply s_load1; exact rfl; exact rfl; (apply RdN.own; (focus ((repeat constructor); done)); (first | exact GetN.cons rfl GetN.nil | (apply getN_ints_app; (first | omega | (simp; omega) | (simp; done))) | (apply getN_ints; (first | omega | (simp; omega) | (simp; done)))))); (apply od_mv; exact rfl; exact rfl; first | (apply s_indexAK; exact rfl; exact rfl; exact ar_68; exact sz_67; omega) | (apply s_indexAO; exact rfl; exact rfl; exact ar_68; exact sz_67; omega)); (apply od_mv; exact rfl; exact rfl; first | (apply s_indexAK; exact rfl; exact rfl; exact ar_67; exact sz_3; omega) | (apply s_indexAO; exact rfl; exact rfl; exact ar_67; exact sz_3; omega)); (apply od_mv; exact rfl; exact rfl; apply s_load1; exact rfl; exact rfl; (apply RdN.own; (focus ((repeat constructor); done)); (first | exact GetN.cons rfl GetN.nil | (apply getN_ints_app; (first | omega | (simp; omega) | (simp; done))) | (apply getN_ints; (first | omega | (simp; omega) | (simp; done)))))); (apply od_mv; exact rfl; exact rfl; apply s_fieldAddr'; exact rfl; exact fd_57_2; (first | exact Nat.zero_add _ | exact Nat.add_zero _ | exact rfl)); (apply od_mv; exact rfl; exact rfl; apply s_load1; exact rfl; exact rfl; (apply RdN.own; (focus ((repeat constructor); done)); (first | exact GetN.cons rfl GetN.nil | (apply getN_ints_app; (first | omega | (simp; omega) | (simp; done))) | (apply getN_ints; (first | omega | (simp; omega) | (simp; done)))))); (apply od_mv; exact rfl; exact rfl; apply s_add64; exact rfl; exact rfl; omega); (apply od_mv; exact rfl; exact rfl; first | (apply s_indexAK; exact rfl; exact rfl; exact ar_68; exact sz_67; omega) | (apply s_indexAO; exact rfl; exact rfl; exact ar_68; exact sz_67; omega)); (apply od_mv; exact rfl; exact rfl; first | (apply s_indexAK; exact rfl; exact rfl; exact ar_67; exact sz_3; omega) | (apply s_indexAO; exact rfl; exact rfl; exact ar_67; exact sz_3; omega)); (apply od_nil; (first | exact Wk.refl _ _ | (focus (apply Wk.mk; exact View.le.refl _; (repeat constructor); done)))); (apply ol_eff; apply s_store1; exact rfl; exact rfl; exact sz_3; exact rfl; (focus ((repeat constructor); done)); (first | (focus ((repeat constructor); done)) | (apply setAt_ints_app; (first | omega | (simp; omega) | (simp; done))) | (apply setAt_ints; (first | omega | (simp; omega) | (simp; done))) | (apply SetAt.set; (first | omega | (simp; omega) | (simp; done))))); (apply ol_nil))
        | (refine cw_region_id 8 ?_; (apply ol_val; exact rfl; apply stp_pur; apply s_add64; exact rfl; exact rfl; omega); (apply ol_mv; exact rfl; exact rfl); (apply ol_nil))
        | (refine cw_region_id 9 ?_; (apply ol_as; exact rfl; exact rfl); (apply ol_nil))
        | (refine cw_region_id 10 ?_; (apply ol_mv; exact rfl; exact rfl); (apply ol_mv; exact rfl; exact rfl); (apply ol_nil))
        | (apply cw_cond_true; exact rfl; (first | exact rfl | assumption))
        | (apply cw_cond_false; exact rfl; (first | exact rfl | assumption))
        | apply cw_skip
        | apply cw_ret
        | apply cw_block
        | apply cw_exit
      have hsm : ∀ a b : Nat, 0 ≤ owe a b l ∧ owe a b l ≤ 1099511627776 * 1000 := fun a b => by have := owe_small g4 (a : Int) (b : Int); omega
      have hlen := oweM_length l
      refine cw_loopK (σ := BL) [0, 6, 37] (by (repeat (first | exact Keep.nil | (apply Keep.cons; exact rfl)))) (fun s => [(9, .slice (base s.r s.A) s.out.length s.c), (38, .int .i64 s.b)]) (fun _ => M) (fun s => [⟨some bk6, ints (oweM l), 68⟩, ⟨s.r, flat C3.enc s.out ++ s.sp, 57⟩, ⟨none, [], 57⟩])
        (fun s => s.b ≤ N ∧ s.out.length ≤ 8 * s.b ∧ s.out = bilL l (allP N s.b) ∧ (allP N s.b).all (bilS l) = true ∧ SO s.r s.out.length s.c (flat C3.enc s.out) s.sp 3) (fun s => N - s.b) ⟨0, [], none, none, 0, []⟩ (by (repeat (first | exact trivial | refine And.intro rfl ?_))) (View.le.refl _) (by (repeat (first | exact Pick.nil | (apply Pick.cons; (focus ((repeat (first | exact Spl.here | apply Spl.there)); done))) | exact Pick.refl))) ⟨by dsimp only; omega, by simp, rfl, rfl, SO.nil 3⟩ ?_
      rintro ⟨a0, out, r, A, c1, sp⟩ ⟨h1, h2, h3, h4, so⟩
      dsimp only at h1 h2 h3 h4 so
      dsimp only
      by_cases ha : a0 < N
      ·
        repeat' first
          | apply cw_seq
          | (refine cw_region_id 11 ?_; (apply ol_val; exact rfl; apply stp_cmp; apply s_lss; exact rfl; exact rfl; all_goals (intro hc39; try (exfalso; (first | exact hc39 rfl | omega)))); all_goals (apply ol_nil))
          | (refine cw_region_id 12 ?_; (apply ol_mv; exact rfl; exact rfl); (apply ol_as; exact rfl; exact rfl); (apply ol_nil))
          | (refine cw_region_id 13 ?_; (apply ol_mv; exact rfl; exact rfl); (apply ol_val; exact rfl; apply stp_pur; apply s_add64; exact rfl; exact rfl; omega); (apply ol_as; exact rfl; exact rfl); (apply ol_nil))
          | (refine cw_region_id 25 ?_; (apply ol_mv; exact rfl; exact rfl); (apply ol_as; exact rfl; exact rfl); (apply ol_as; exact rfl; exact rfl); (apply ol_nil))
          | (apply cw_cond_true; exact rfl; (first | exact rfl | assumption))
          | (apply cw_cond_false; exact rfl; (first | exact rfl | assumption))
          | apply cw_skip
          | apply cw_ret
          | apply cw_block
          | apply cw_exit
        refine cw_loopK (σ := BL) [0, 6, 10, 37, 38] (by (repeat (first | exact Keep.nil | (apply Keep.cons; exact rfl)))) (fun s => [(9, .slice (base s.r s.A) s.out.length s.c), (11, .int .i64 s.b)]) (fun _ => M) (fun s => [⟨some bk6, ints (oweM l), 68⟩, ⟨s.r, flat C3.enc s.out ++ s.sp, 57⟩, ⟨none, [], 57⟩])
          (fun s => a0 + 1 ≤ s.b ∧ s.b ≤ N ∧ s.out.length ≤ 8 * a0 + s.b - (a0 + 1) ∧ s.out = bilL l (allP N a0 ++ rowP a0 s.b) ∧ (allP N a0 ++ rowP a0 s.b).all (bilS l) = true ∧ SO s.r s.out.length s.c (flat C3.enc s.out) s.sp 3) (fun s => N - s.b) ⟨a0 + 1, out, r, A, c1, sp⟩ (by (repeat (first | exact trivial | refine And.intro rfl ?_))) (View.le.refl _) (by (repeat (first | exact Pick.nil | (apply Pick.cons; (focus ((repeat (first | exact Spl.here | apply Spl.there)); done))) | exact Pick.refl))) ⟨by dsimp only; omega, by dsimp only; omega, by dsimp only; omega, by dsimp only; rw [rowP_nil, List.append_nil]; exact h3, by dsimp only; rw [rowP_nil, List.append_nil]; exact h4, so⟩ ?_
        rintro ⟨b0, out, r, A, c1, sp⟩ ⟨i0, i1, i2, i3, i4, so⟩
        dsimp only at i0 i1 i2 i3 i4 so
        dsimp only
        by_cases hb : b0 < N
        · have hd1 := oweM_get (l := l) (a := a0) (b := b0) (by omega) (by omega)
          have hd2 := oweM_get (l := l) (a := b0) (b := a0) (by omega) (by omega)
          have hs1 := hsm a0 b0
          have hs2 := hsm b0 a0
          have hnx : ∀ x, bil1 l (a0, b0) = x → bilL l (allP N a0 ++ rowP a0 (b0 + 1)) = out ++ x := fun x hx => by rw [rowP_succ i0, ← List.append_assoc, bilL_append, ← i3, ← hx]; simp [bilL]
          have hnS : bilS l (a0, b0) = true → (allP N a0 ++ rowP a0 (b0 + 1)).all (bilS l) = true := fun h => by rw [rowP_succ i0, ← List.append_assoc, List.all_append, i4]; simp [h]
          cases hS : bilS l (a0, b0) with
          | false =>
            have hS' := of_decide_eq_false hS
            dsimp only at hS'
            rw [Bil_false ha i0 hb hS] at hr
            obtain ⟨rfl, rfl⟩ := Prod.mk.inj hr
            repeat' first
              | apply cw_seq
              | (refine cw_region_id 14 ?_; (apply ol_mv; exact rfl; exact rfl); (apply ol_mv; exact rfl; exact rfl); (apply ol_val; exact rfl; apply stp_cmp; apply s_lss; exact rfl; exact rfl; all_goals (intro hc45; try (exfalso; (first | exact hc45 rfl | omega)))); all_goals (apply ol_nil))
              | (refine cw_draw (id := 16) 12 (.mv 0 (.mv 1 (.mv 2 (.mv 3 (.mv 4 (.mv 5 (.mv 6 (.mv 7 (.mv 8 (.mv 9 (.mv 10 (.mv 11 (PT.nil))))))))))))) mixed (by kernel_rfl) ?_; (apply od_mv; exact rfl; exact rfl; apply s_move; exact rfl); (apply od_mv; exact rfl; exact rfl; apply s_move; exact rfl); (apply od_mv; exact rfl; exact rfl; first | (apply s_indexAK; exact rfl; exact rfl; exact ar_68; exact sz_67; omega) | (apply s_indexAO; exact rfl; exact rfl; exact ar_68; exact sz_67; omega)); (apply od_mv; exact rfl; exact rfl; first | (apply s_indexAK; exact rfl; exact rfl; exact ar_67; exact sz_3; omega) | (apply s_indexAO; exact rfl; exact rfl; exact ar_67; exact sz_3; omega)); (apply od_mv; exact rfl; exact rfl; apply s_load1; exact rfl; exact rfl; (apply RdN.own; (focus ((repeat constructor); done)); (first | exact GetN.cons rfl GetN.nil | (apply getN_intsAt (k := a0 * 8 + b0); omega; omega) | (apply getN_intsAt (k := b0 * 8 + a0); omega; omega)))); (apply od_mv; exact rfl; exact rfl; apply s_move; exact rfl); (apply od_mv; exact rfl; exact rfl; apply s_move; exact rfl); (apply od_mv; exact rfl; exact rfl; first | (apply s_indexAK; exact rfl; exact rfl; exact ar_68; exact sz_67; omega) | (apply s_indexAO; exact rfl; exact rfl; exact ar_68; exact sz_67; omega)); (apply od_mv; exact rfl; exact rfl; first | (apply s_indexAK; exact rfl; exact rfl; exact ar_67; exact sz_3; omega) | (apply s_indexAO; exact rfl; exact rfl; exact ar_67; exact sz_3; omega)); (apply od_mv; exact rfl; exact rfl; apply s_load1; exact rfl; exact rfl; (apply RdN.own; (focus ((repeat constructor); done)); (first | exact GetN.cons rfl GetN.nil | (apply getN_intsAt (k := a0 * 8 + b0); omega; omega) | (apply getN_intsAt (k := b0 * 8 + a0); omega; omega)))); (apply od_mv; exact rfl; exact rfl; apply s_sub64; exact rfl; exact rfl; omega); (apply od_mv; exact rfl; exact rfl; apply s_assign; exact rfl); (apply od_nil; (first | exact Wk.refl _ _ | (focus (apply Wk.mk; exact View.le.refl _; (repeat constructor); done)))); (apply ol_nil))
              | (refine cw_region_id 17 ?_; (apply ol_mv; exact rfl; exact rfl); (apply ol_mv; exact rfl; exact rfl); (apply ol_mv; exact rfl; exact rfl); (apply ol_val; exact rfl; apply stp_pur; apply s_buildS; exact rfl; exact fs_57; exact zb_57; (focus ((repeat (first | exact rfl | constructor)); done))); (apply ol_val; exact rfl; apply s_alloc; exact zb_57; (focus ((repeat constructor); done)); intro bk13); (apply ol_eff; apply s_storeN; exact rfl; exact rfl; exact sz_57; exact rfl; exact rfl; (focus ((repeat constructor); done)); (focus ((repeat constructor); done))); (apply ol_nil))
              | (refine cw_region_id 18 ?_; (apply ol_mv; exact rfl; exact rfl); (apply ol_val; exact rfl; apply stp_cmp; apply s_lss; exact rfl; exact rfl; all_goals (intro hc64; try (exfalso; (first | exact hc64 rfl | omega)))); all_goals (apply ol_nil))
              | (refine cw_region_id 19 ?_; (apply ol_mv; exact rfl; exact rfl); (apply ol_mv; exact rfl; exact rfl); (apply ol_mv; exact rfl; exact rfl); (apply ol_val; exact rfl; apply stp_pur; apply s_neg64; exact rfl; omega); (apply ol_val; exact rfl; apply stp_pur; apply s_buildS; exact rfl; exact fs_57; exact zb_57; (focus ((repeat (first | exact rfl | constructor)); done))); (apply ol_eff; apply s_storeN; exact rfl; exact rfl; exact sz_57; exact rfl; exact rfl; (focus ((repeat constructor); done)); (focus ((repeat constructor); done))); (apply ol_nil))
              | (refine cw_region_id 20 ?_; (apply ol_fa; exact rfl; exact rfl; exact fd_57_2; (first | exact Nat.zero_add _ | exact Nat.add_zero _ | exact rfl)); (apply ol_ld; exact rfl; exact rfl; exact rfl; (apply RdN.own; (focus ((repeat constructor); done)); (first | exact GetN.cons rfl GetN.nil | (apply getN_intsAt (k := a0 * 8 + b0); omega; omega) | (apply getN_intsAt (k := b0 * 8 + a0); omega; omega)))); (apply ol_val; exact rfl; apply stp_cmp; apply s_gtr; exact rfl; exact rfl; all_goals (intro hc72; try (exfalso; (first | exact hc72 rfl | omega)))); all_goals (apply ol_nil))
              | (refine cw_region_id 21 ?_; (apply ol_as; exact rfl; exact rfl); (apply ol_as; exact rfl; exact rfl); (apply ol_nil))
              | (refine cw_region_id 22 ?_; (apply ol_mv; exact rfl; exact rfl); (apply ol_val; exact rfl; apply stp_cmp; apply s_neq; exact rfl; exact rfl; all_goals (intro hc74; try (exfalso; (first | exact hc74 rfl | omega)))); all_goals (apply ol_nil))
              | (refine cw_region_id 23 ?_; (apply ol_mv; exact rfl; exact rfl); (apply ol_ldN; exact rfl; exact rfl; exact rfl; exact sz_57; (apply RdN.own; (focus ((repeat constructor); done)); (focus ((repeat (first | exact rfl | constructor)); done)))); (apply ol_val; exact rfl; apply s_buildSl; exact rfl; exact el_45; exact sz_57; exact zb_57; (focus ((repeat constructor); done)); exact rfl; exact rfl; (exact Nat.le_of_ble_eq_true rfl); (focus ((repeat constructor); done)); (focus ((repeat (first | exact Fil.nil | (apply Fil.one; exact rfl; exact rfl; (repeat (first | exact SetAt.zero | apply SetAt.succ))) | (apply Fil.agg; exact rfl; exact rfl; (repeat (first | exact SetN.nil | (apply SetN.cons; (repeat (first | exact SetAt.zero | apply SetAt.succ))))); (exact Nat.le_of_ble_eq_true rfl)))); done)); intro bk77); (apply ol_val; exact rfl; first | (apply s_append_e; exact rfl; exact rfl; (focus ((repeat constructor); done)); exact el_45; exact sz_57; exact zb_57; exact rfl; exact by_57; (first | exact (fun _ => rfl)); (first | (apply RdN.own; (focus ((repeat constructor); done)); (focus ((repeat (first | exact rfl | constructor)); done)))); (first | exact rfl); (first | omega | (simp; omega) | (simp; done)); (first | omega | (simp; omega) | (simp; done)); intro rk78 sk78 ck78 ok78) | (apply s_append_r; exact rfl; exact rfl; (focus ((repeat constructor); done)); (first | exact rfl | exact (List.append_nil _).symm); exact el_45; exact sz_57; exact zb_57; exact rfl; exact by_57; (first | exact SO.nil _ | assumption | (exact ⟨by simp, by simp, Nat.le_refl _, by simp⟩)); (first | exact (fun _ => rfl)); (first | (apply RdN.own; (focus ((repeat constructor); done)); (focus ((repeat (first | exact rfl | constructor)); done)))); (first | exact rfl); (first | omega | (simp; omega) | (simp; done)); (first | omega | (simp; omega) | (simp; done)); intro rk78 sk78 ck78 ok78) | (apply s_append_b; exact rfl; exact rfl; (focus ((repeat constructor); done)); (first | exact rfl | exact (List.append_nil _).symm); exact el_45; exact sz_57; exact zb_57; exact rfl; exact by_57; (first | exact SO.nil _ | assumption | (exact ⟨by simp, by simp, Nat.le_refl _, by simp⟩)); (first | exact (fun _ => rfl)); (first | (apply RdN.own; (focus ((repeat constructor); done)); (focus ((repeat (first | exact rfl | constructor)); done)))); (first | exact rfl); (first | omega | (simp; omega) | (simp; done)); (first | omega | (simp; omega) | (simp; done)); intro rk78 sk78 ck78 ok78) | (apply s_append_n; exact rfl; exact rfl; (focus ((repeat constructor); done)); exact el_45; exact sz_57; exact zb_57; exact rfl; exact by_57; (first | exact (fun _ => rfl)); (first | (apply RdN.own; (focus ((repeat constructor); done)); (focus ((repeat (first | exact rfl | constructor)); done)))); (first | exact rfl); (first | omega | (simp; omega) | (simp; done)); (first | omega | (simp; omega) | (simp; done)); intro rk78 sk78 ck78 ok78)); (apply ol_as; exact rfl; exact rfl); (apply ol_nil))
              | (refine cw_region_id 15 ?_; (apply ol_mv; exact rfl; exact rfl); (apply ol_val; exact rfl; apply stp_pur; apply s_add64; exact rfl; exact rfl; omega); (apply ol_as; exact rfl; exact rfl); (apply ol_nil))
              | (refine cw_region_id 24 ?_; (apply ol_val; exact rfl; apply stp_pur; apply s_add64; exact rfl; exact rfl; omega); (apply ol_mv; exact rfl; exact rfl); (apply ol_nil))
              | (apply cw_cond_true; exact rfl; (first | exact rfl | assumption))
              | (apply cw_cond_false; exact rfl; (first | exact rfl | assumption))
              | apply cw_skip
              | apply cw_ret
              | apply cw_block
              | apply cw_exit
            all_goals first
              | (refine ends [⟨none, [], 57⟩] (RVal.tmp rfl (RVal.tmp rfl RVal.nil)) (by (repeat (first | exact Pick.nil | (apply Pick.cons; (focus ((repeat (first | exact Spl.here | apply Spl.there)); done))) | exact Pick.refl))) ?_; exact Row2.zero _ _ _ _)
              | (exfalso; omega)
          | true =>
            have hS' := of_decide_eq_true hS
            dsimp only at hS'
            by_cases hD : owe a0 b0 l - owe b0 a0 l = 0
            · have hx := hnx [] (by simp [bil1, hD])
              rw [List.append_nil] at hx
              repeat' first
                | apply cw_seq
                | (refine cw_region_id 14 ?_; (apply ol_mv; exact rfl; exact rfl); (apply ol_mv; exact rfl; exact rfl); (apply ol_val; exact rfl; apply stp_cmp; apply s_lss; exact rfl; exact rfl; all_goals (intro hc45; try (exfalso; (first | exact hc45 rfl | omega)))); all_goals (apply ol_nil))
                | (refine cw_draw (id := 16) 12 (.mv 0 (.mv 1 (.mv 2 (.mv 3 (.mv 4 (.mv 5 (.mv 6 (.mv 7 (.mv 8 (.mv 9 (.mv 10 (.mv 11 (PT.nil))))))))))))) mixed (by kernel_rfl) ?_; (apply od_mv; exact rfl; exact rfl; apply s_move; exact rfl); (apply od_mv; exact rfl; exact rfl; apply s_move; exact rfl); (apply od_mv; exact rfl; exact rfl; first | (apply s_indexAK; exact rfl; exact rfl; exact ar_68; exact sz_67; omega) | (apply s_indexAO; exact rfl; exact rfl; exact ar_68; exact sz_67; omega)); (apply od_mv; exact rfl; exact rfl; first | (apply s_indexAK; exact rfl; exact rfl; exact ar_67; exact sz_3; omega) | (apply s_indexAO; exact rfl; exact rfl; exact ar_67; exact sz_3; omega)); (apply od_mv; exact rfl; exact rfl; apply s_load1; exact rfl; exact rfl; (apply RdN.own; (focus ((repeat constructor); done)); (first | exact GetN.cons rfl GetN.nil | (apply getN_intsAt (k := a0 * 8 + b0); omega; omega) | (apply getN_intsAt (k := b0 * 8 + a0); omega; omega)))); (apply od_mv; exact rfl; exact rfl; apply s_move; exact rfl); (apply od_mv; exact rfl; exact rfl; apply s_move; exact rfl); (apply od_mv; exact rfl; exact rfl; first | (apply s_indexAK; exact rfl; exact rfl; exact ar_68; exact sz_67; omega) | (apply s_indexAO; exact rfl; exact rfl; exact ar_68; exact sz_67; omega)); (apply od_mv; exact rfl; exact rfl; first | (apply s_indexAK; exact rfl; exact rfl; exact ar_67; exact sz_3; omega) | (apply s_indexAO; exact rfl; exact rfl; exact ar_67; exact sz_3; omega)); (apply od_mv; exact rfl; exact rfl; apply s_load1; exact rfl; exact rfl; (apply RdN.own; (focus ((repeat constructor); done)); (first | exact GetN.cons rfl GetN.nil | (apply getN_intsAt (k := a0 * 8 + b0); omega; omega) | (apply getN_intsAt (k := b0 * 8 + a0); omega; omega)))); (apply od_mv; exact rfl; exact rfl; apply s_sub64; exact rfl; exact rfl; omega); (apply od_mv; exact rfl; exact rfl; apply s_assign; exact rfl); (apply od_nil; (first | exact Wk.refl _ _ | (focus (apply Wk.mk; exact View.le.refl _; (repeat constructor); done)))); (apply ol_nil))
                | (refine cw_region_id 17 ?_; (apply ol_mv; exact rfl; exact rfl); (apply ol_mv; exact rfl; exact rfl); (apply ol_mv; exact rfl; exact rfl); (apply ol_val; exact rfl; apply stp_pur; apply s_buildS; exact rfl; exact fs_57; exact zb_57; (focus ((repeat (first | exact rfl | constructor)); done))); (apply ol_val; exact rfl; apply s_alloc; exact zb_57; (focus ((repeat constructor); done)); intro bk13); (apply ol_eff; apply s_storeN; exact rfl; exact rfl; exact sz_57; exact rfl; exact rfl; (focus ((repeat constructor); done)); (focus ((repeat constructor); done))); (apply ol_nil))
                | (refine cw_region_id 18 ?_; (apply ol_mv; exact rfl; exact rfl); (apply ol_val; exact rfl; apply stp_cmp; apply s_lss; exact rfl; exact rfl; all_goals (intro hc64; try (exfalso; (first | exact hc64 rfl | omega)))); all_goals (apply ol_nil))
                | (refine cw_region_id 19 ?_; (apply ol_mv; exact rfl; exact rfl); (apply ol_mv; exact rfl; exact rfl); (apply ol_mv; exact rfl; exact rfl); (apply ol_val; exact rfl; apply stp_pur; apply s_neg64; exact rfl; omega); (apply ol_val; exact rfl; apply stp_pur; apply s_buildS; exact rfl; exact fs_57; exact zb_57; (focus ((repeat (first | exact rfl | constructor)); done))); (apply ol_eff; apply s_storeN; exact rfl; exact rfl; exact sz_57; exact rfl; exact rfl; (focus ((repeat constructor); done)); (focus ((repeat constructor); done))); (apply ol_nil))
                | (refine cw_region_id 20 ?_; (apply ol_fa; exact rfl; exact rfl; exact fd_57_2; (first | exact Nat.zero_add _ | exact Nat.add_zero _ | exact rfl)); (apply ol_ld; exact rfl; exact rfl; exact rfl; (apply RdN.own; (focus ((repeat constructor); done)); (first | exact GetN.cons rfl GetN.nil | (apply getN_intsAt (k := a0 * 8 + b0); omega; omega) | (apply getN_intsAt (k := b0 * 8 + a0); omega; omega)))); (apply ol_val; exact rfl; apply stp_cmp; apply s_gtr; exact rfl; exact rfl; all_goals (intro hc72; try (exfalso; (first | exact hc72 rfl | omega)))); all_goals (apply ol_nil))
                | (refine cw_region_id 21 ?_; (apply ol_as; exact rfl; exact rfl); (apply ol_as; exact rfl; exact rfl); (apply ol_nil))
                | (refine cw_region_id 22 ?_; (apply ol_mv; exact rfl; exact rfl); (apply ol_val; exact rfl; apply stp_cmp; apply s_neq; exact rfl; exact rfl; all_goals (intro hc74; try (exfalso; (first | exact hc74 rfl | omega)))); all_goals (apply ol_nil))
                | (refine cw_region_id 23 ?_; (apply ol_mv; exact rfl; exact rfl); (apply ol_ldN; exact rfl; exact rfl; exact rfl; exact sz_57; (apply RdN.own; (focus ((repeat constructor); done)); (focus ((repeat (first | exact rfl | constructor)); done)))); (apply ol_val; exact rfl; apply s_buildSl; exact rfl; exact el_45; exact sz_57; exact zb_57; (focus ((repeat constructor); done)); exact rfl; exact rfl; (exact Nat.le_of_ble_eq_true rfl); (focus ((repeat constructor); done)); (focus ((repeat (first | exact Fil.nil | (apply Fil.one; exact rfl; exact rfl; (repeat (first | exact SetAt.zero | apply SetAt.succ))) | (apply Fil.agg; exact rfl; exact rfl; (repeat (first | exact SetN.nil | (apply SetN.cons; (repeat (first | exact SetAt.zero | apply SetAt.succ))))); (exact Nat.le_of_ble_eq_true rfl)))); done)); intro bk77); (apply ol_val; exact rfl; first | (apply s_append_e; exact rfl; exact rfl; (focus ((repeat constructor); done)); exact el_45; exact sz_57; exact zb_57; exact rfl; exact by_57; (first | exact (fun _ => rfl)); (first | (apply RdN.own; (focus ((repeat constructor); done)); (focus ((repeat (first | exact rfl | constructor)); done)))); (first | exact rfl); (first | omega | (simp; omega) | (simp; done)); (first | omega | (simp; omega) | (simp; done)); intro rk78 sk78 ck78 ok78) | (apply s_append_r; exact rfl; exact rfl; (focus ((repeat constructor); done)); (first | exact rfl | exact (List.append_nil _).symm); exact el_45; exact sz_57; exact zb_57; exact rfl; exact by_57; (first | exact SO.nil _ | assumption | (exact ⟨by simp, by simp, Nat.le_refl _, by simp⟩)); (first | exact (fun _ => rfl)); (first | (apply RdN.own; (focus ((repeat constructor); done)); (focus ((repeat (first | exact rfl | constructor)); done)))); (first | exact rfl); (first | omega | (simp; omega) | (simp; done)); (first | omega | (simp; omega) | (simp; done)); intro rk78 sk78 ck78 ok78) | (apply s_append_b; exact rfl; exact rfl; (focus ((repeat constructor); done)); (first | exact rfl | exact (List.append_nil _).symm); exact el_45; exact sz_57; exact zb_57; exact rfl; exact by_57; (first | exact SO.nil _ | assumption | (exact ⟨by simp, by simp, Nat.le_refl _, by simp⟩)); (first | exact (fun _ => rfl)); (first | (apply RdN.own; (focus ((repeat constructor); done)); (focus ((repeat (first | exact rfl | constructor)); done)))); (first | exact rfl); (first | omega | (simp; omega) | (simp; done)); (first | omega | (simp; omega) | (simp; done)); intro rk78 sk78 ck78 ok78) | (apply s_append_n; exact rfl; exact rfl; (focus ((repeat constructor); done)); exact el_45; exact sz_57; exact zb_57; exact rfl; exact by_57; (first | exact (fun _ => rfl)); (first | (apply RdN.own; (focus ((repeat constructor); done)); (focus ((repeat (first | exact rfl | constructor)); done)))); (first | exact rfl); (first | omega | (simp; omega) | (simp; done)); (first | omega | (simp; omega) | (simp; done)); intro rk78 sk78 ck78 ok78)); (apply ol_as; exact rfl; exact rfl); (apply ol_nil))
                | (refine cw_region_id 15 ?_; (apply ol_mv; exact rfl; exact rfl); (apply ol_val; exact rfl; apply stp_pur; apply s_add64; exact rfl; exact rfl; omega); (apply ol_as; exact rfl; exact rfl); (apply ol_nil))
                | (refine cw_region_id 24 ?_; (apply ol_val; exact rfl; apply stp_pur; apply s_add64; exact rfl; exact rfl; omega); (apply ol_mv; exact rfl; exact rfl); (apply ol_nil))
                | (apply cw_cond_true; exact rfl; (first | exact rfl | assumption))
                | (apply cw_cond_false; exact rfl; (first | exact rfl | assumption))
                | apply cw_skip
                | apply cw_ret
                | apply cw_block
                | apply cw_exit
              refine ⟨⟨b0 + 1, out, r, A, c1, sp⟩, ⟨by (repeat (first | exact trivial | refine And.intro rfl ?_)), View.le.refl _, by (repeat (first | exact Pick.nil | (apply Pick.cons; (focus ((repeat (first | exact Spl.here | apply Spl.there)); done))) | exact Pick.refl)), ⟨by dsimp only; omega, hb, by dsimp only; omega, hx.symm, hnS hS, so⟩, by dsimp only; omega⟩⟩
            · by_cases hD2 : owe a0 b0 l - owe b0 a0 l < 0
              · have hx := hnx [⟨b0, a0, -(owe a0 b0 l - owe b0 a0 l)⟩] (by unfold bil1; dsimp only; rw [if_neg hD, if_pos hD2])
                repeat' first
                  | apply cw_seq
                  | (refine cw_region_id 14 ?_; (apply ol_mv; exact rfl; exact rfl); (apply ol_mv; exact rfl; exact rfl); (apply ol_val; exact rfl; apply stp_cmp; apply s_lss; exact rfl; exact rfl; all_goals (intro hc45; try (exfalso; (first | exact hc45 rfl | omega)))); all_goals (apply ol_nil))
                  | (refine cw_draw (id := 16) 12 (.mv 0 (.mv 1 (.mv 2 (.mv 3 (.mv 4 (.mv 5 (.mv 6 (.mv 7 (.mv 8 (.mv 9 (.mv 10 (.mv 11 (PT.nil))))))))))))) mixed (by kernel_rfl) ?_; (apply od_mv; exact rfl; exact rfl; apply s_move; exact rfl); (apply od_mv; exact rfl; exact rfl; apply s_move; exact rfl); (apply od_mv; exact rfl; exact rfl; first | (apply s_indexAK; exact rfl; exact rfl; exact ar_68; exact sz_67; omega) | (apply s_indexAO; exact rfl; exact rfl; exact ar_68; exact sz_67; omega)); (apply od_mv; exact rfl; exact rfl; first | (apply s_indexAK; exact rfl; exact rfl; exact ar_67; exact sz_3; omega) | (apply s_indexAO; exact rfl; exact rfl; exact ar_67; exact sz_3; omega)); (apply od_mv; exact rfl; exact rfl; apply s_load1; exact rfl; exact rfl; (apply RdN.own; (focus ((repeat constructor); done)); (first | exact GetN.cons rfl GetN.nil | (apply getN_intsAt (k := a0 * 8 + b0); omega; omega) | (apply getN_intsAt (k := b0 * 8 + a0); omega; omega)))); (apply od_mv; exact rfl; exact rfl; apply s_move; exact rfl); (apply od_mv; exact rfl; exact rfl; apply s_move; exact rfl); (apply od_mv; exact rfl; exact rfl; first | (apply s_indexAK; exact rfl; exact rfl; exact ar_68; exact sz_67; omega) | (apply s_indexAO; exact rfl; exact rfl; exact ar_68; exact sz_67; omega)); (apply od_mv; exact rfl; exact rfl; first | (apply s_indexAK; exact rfl; exact rfl; exact ar_67; exact sz_3; omega) | (apply s_indexAO; exact rfl; exact rfl; exact ar_67; exact sz_3; omega)); (apply od_mv; exact rfl; exact rfl; apply s_load1; exact rfl; exact rfl; (apply RdN.own; (focus ((repeat constructor); done)); (first | exact GetN.cons rfl GetN.nil | (apply getN_intsAt (k := a0 * 8 + b0); omega; omega) | (apply getN_intsAt (k := b0 * 8 + a0); omega; omega)))); (apply od_mv; exact rfl; exact rfl; apply s_sub64; exact rfl; exact rfl; omega); (apply od_mv; exact rfl; exact rfl; apply s_assign; exact rfl); (apply od_nil; (first | exact Wk.refl _ _ | (focus (apply Wk.mk; exact View.le.refl _; (repeat constructor); done)))); (apply ol_nil))
                  | (refine cw_region_id 17 ?_; (apply ol_mv; exact rfl; exact rfl); (apply ol_mv; exact rfl; exact rfl); (apply ol_mv; exact rfl; exact rfl); (apply ol_val; exact rfl; apply stp_pur; apply s_buildS; exact rfl; exact fs_57; exact zb_57; (focus ((repeat (first | exact rfl | constructor)); done))); (apply ol_val; exact rfl; apply s_alloc; exact zb_57; (focus ((repeat constructor); done)); intro bk13); (apply ol_eff; apply s_storeN; exact rfl; exact rfl; exact sz_57; exact rfl; exact rfl; (focus ((repeat constructor); done)); (focus ((repeat constructor); done))); (apply ol_nil))
                  | (refine cw_region_id 18 ?_; (apply ol_mv; exact rfl; exact rfl); (apply ol_val; exact rfl; apply stp_cmp; apply s_lss; exact rfl; exact rfl; all_goals (intro hc64; try (exfalso; (first | exact hc64 rfl | omega)))); all_goals (apply ol_nil))
                  | (refine cw_region_id 19 ?_; (apply ol_mv; exact rfl; exact rfl); (apply ol_mv; exact rfl; exact rfl); (apply ol_mv; exact rfl; exact rfl); (apply ol_val; exact rfl; apply stp_pur; apply s_neg64; exact rfl; omega); (apply ol_val; exact rfl; apply stp_pur; apply s_buildS; exact rfl; exact fs_57; exact zb_57; (focus ((repeat (first | exact rfl | constructor)); done))); (apply ol_eff; apply s_storeN; exact rfl; exact rfl; exact sz_57; exact rfl; exact rfl; (focus ((repeat constructor); done)); (focus ((repeat constructor); done))); (apply ol_nil))
                  | (refine cw_region_id 20 ?_; (apply ol_fa; exact rfl; exact rfl; exact fd_57_2; (first | exact Nat.zero_add _ | exact Nat.add_zero _ | exact rfl)); (apply ol_ld; exact rfl; exact rfl; exact rfl; (apply RdN.own; (focus ((repeat constructor); done)); (first | exact GetN.cons rfl GetN.nil | (apply getN_intsAt (k := a0 * 8 + b0); omega; omega) | (apply getN_intsAt (k := b0 * 8 + a0); omega; omega)))); (apply ol_val; exact rfl; apply stp_cmp; apply s_gtr; exact rfl; exact rfl; all_goals (intro hc72; try (exfalso; (first | exact hc72 rfl | omega)))); all_goals (apply ol_nil))
                  | (refine cw_region_id 21 ?_; (apply ol_as; exact rfl; exact rfl); (apply ol_as; exact rfl; exact rfl); (apply ol_nil))
                  | (refine cw_region_id 22 ?_; (apply ol_mv; exact rfl; exact rfl); (apply ol_val; exact rfl; apply stp_cmp; apply s_neq; exact rfl; exact rfl; all_goals (intro hc74; try (exfalso; (first | exact hc74 rfl | omega)))); all_goals (apply ol_nil))
                  | (refine cw_region_id 23 ?_; (apply ol_mv; exact rfl; exact rfl); (apply ol_ldN; exact rfl; exact rfl; exact rfl; exact sz_57; (apply RdN.own; (focus ((repeat constructor); done)); (focus ((repeat (first | exact rfl | constructor)); done)))); (apply ol_val; exact rfl; apply s_buildSl; exact rfl; exact el_45; exact sz_57; exact zb_57; (focus ((repeat constructor); done)); exact rfl; exact rfl; (exact Nat.le_of_ble_eq_true rfl); (focus ((repeat constructor); done)); (focus ((repeat (first | exact Fil.nil | (apply Fil.one; exact rfl; exact rfl; (repeat (first | exact SetAt.zero | apply SetAt.succ))) | (apply Fil.agg; exact rfl; exact rfl; (repeat (first | exact SetN.nil | (apply SetN.cons; (repeat (first | exact SetAt.zero | apply SetAt.succ))))); (exact Nat.le_of_ble_eq_true rfl)))); done)); intro bk77); (apply ol_val; exact rfl; first | (apply s_append_e; exact rfl; exact rfl; (focus ((repeat constructor); done)); exact el_45; exact sz_57; exact zb_57; exact rfl; exact by_57; (first | exact (fun _ => rfl)); (first | (apply RdN.own; (focus ((repeat constructor); done)); (focus ((repeat (first | exact rfl | constructor)); done)))); (first | exact rfl); (first | omega | (simp; omega) | (simp; done)); (first | omega | (simp; omega) | (simp; done)); intro rk78 sk78 ck78 ok78) | (apply s_append_r; exact rfl; exact rfl; (focus ((repeat constructor); done)); (first | exact rfl | exact (List.append_nil _).symm); exact el_45; exact sz_57; exact zb_57; exact rfl; exact by_57; (first | exact SO.nil _ | assumption | (exact ⟨by simp, by simp, Nat.le_refl _, by simp⟩)); (first | exact (fun _ => rfl)); (first | (apply RdN.own; (focus ((repeat constructor); done)); (focus ((repeat (first | exact rfl | constructor)); done)))); (first | exact rfl); (first | omega | (simp; omega) | (simp; done)); (first | omega | (simp; omega) | (simp; done)); intro rk78 sk78 ck78 ok78) | (apply s_append_b; exact rfl; exact rfl; (focus ((repeat constructor); done)); (first | exact rfl | exact (List.append_nil _).symm); exact el_45; exact sz_57; exact zb_57; exact rfl; exact by_57; (first | exact SO.nil _ | assumption | (exact ⟨by simp, by simp, Nat.le_refl _, by simp⟩)); (first | exact (fun _ => rfl)); (first | (apply RdN.own; (focus ((repeat constructor); done)); (focus ((repeat (first | exact rfl | constructor)); done)))); (first | exact rfl); (first | omega | (simp; omega) | (simp; done)); (first | omega | (simp; omega) | (simp; done)); intro rk78 sk78 ck78 ok78) | (apply s_append_n; exact rfl; exact rfl; (focus ((repeat constructor); done)); exact el_45; exact sz_57; exact zb_57; exact rfl; exact by_57; (first | exact (fun _ => rfl)); (first | (apply RdN.own; (focus ((repeat constructor); done)); (focus ((repeat (first | exact rfl | constructor)); done)))); (first | exact rfl); (first | omega | (simp; omega) | (simp; done)); (first | omega | (simp; omega) | (simp; done)); intro rk78 sk78 ck78 ok78)); (apply ol_as; exact rfl; exact rfl); (apply ol_nil))
                  | (refine cw_region_id 15 ?_; (apply ol_mv; exact rfl; exact rfl); (apply ol_val; exact rfl; apply stp_pur; apply s_add64; exact rfl; exact rfl; omega); (apply ol_as; exact rfl; exact rfl); (apply ol_nil))
                  | (refine cw_region_id 24 ?_; (apply ol_val; exact rfl; apply stp_pur; apply s_add64; exact rfl; exact rfl; omega); (apply ol_mv; exact rfl; exact rfl); (apply ol_nil))
                  | (apply cw_cond_true; exact rfl; (first | exact rfl | assumption))
                  | (apply cw_cond_false; exact rfl; (first | exact rfl | assumption))
                  | apply cw_skip
                  | apply cw_ret
                  | apply cw_block
                  | apply cw_exit
                rw [hd1, hd2]
                refine ⟨⟨b0 + 1, out ++ [⟨b0, a0, -(owe a0 b0 l - owe b0 a0 l)⟩], rk78, A, ck78, sk78⟩, ⟨?_, View.le.refl _, ?_, ⟨by dsimp only; omega, hb, by simp; omega, hx.symm, hnS hS, ?_⟩, by dsimp only; omega⟩⟩
                · dsimp only; rw [List.length_append]; (repeat (first | exact trivial | refine And.intro rfl ?_))
                · dsimp only; rw [flat_append, flat_one]; (repeat (first | exact Pick.nil | (apply Pick.cons; (focus ((repeat (first | exact Spl.here | apply Spl.there)); done))) | exact Pick.refl))
                · dsimp only; rw [List.length_append, flat_append, flat_one]; rw [hd1, hd2] at ok78; exact ok78
              · have hx := hnx [⟨a0, b0, owe a0 b0 l - owe b0 a0 l⟩] (by unfold bil1; dsimp only; rw [if_neg hD, if_neg hD2])
                repeat' first
                  | apply cw_seq
                  | (refine cw_region_id 14 ?_; (apply ol_mv; exact rfl; exact rfl); (apply ol_mv; exact rfl; exact rfl); (apply ol_val; exact rfl; apply stp_cmp; apply s_lss; exact rfl; exact rfl; all_goals (intro hc45; try (exfalso; (first | exact hc45 rfl | omega)))); all_goals (apply ol_nil))
                  | (refine cw_draw (id := 16) 12 (.mv 0 (.mv 1 (.mv 2 (.mv 3 (.mv 4 (.mv 5 (.mv 6 (.mv 7 (.mv 8 (.mv 9 (.mv 10 (.mv 11 (PT.nil))))))))))))) mixed (by kernel_rfl) ?_; (apply od_mv; exact rfl; exact rfl; apply s_move; exact rfl); (apply od_mv; exact rfl; exact rfl; apply s_move; exact rfl); (apply od_mv; exact rfl; exact rfl; first | (apply s_indexAK; exact rfl; exact rfl; exact ar_68; exact sz_67; omega) | (apply s_indexAO; exact rfl; exact rfl; exact ar_68; exact sz_67; omega)); (apply od_mv; exact rfl; exact rfl; first | (apply s_indexAK; exact rfl; exact rfl; exact ar_67; exact sz_3; omega) | (apply s_indexAO; exact rfl; exact rfl; exact ar_67; exact sz_3; omega)); (apply od_mv; exact rfl; exact rfl; apply s_load1; exact rfl; exact rfl; (apply RdN.own; (focus ((repeat constructor); done)); (first | exact GetN.cons rfl GetN.nil | (apply getN_intsAt (k := a0 * 8 + b0); omega; omega) | (apply getN_intsAt (k := b0 * 8 + a0); omega; omega)))); (apply od_mv; exact rfl; exact rfl; apply s_move; exact rfl); (apply od_mv; exact rfl; exact rfl; apply s_move; exact rfl); (apply od_mv; exact rfl; exact rfl; first | (apply s_indexAK; exact rfl; exact rfl; exact ar_68; exact sz_67; omega) | (apply s_indexAO; exact rfl; exact rfl; exact ar_68; exact sz_67; omega)); (apply od_mv; exact rfl; exact rfl; first | (apply s_indexAK; exact rfl; exact rfl; exact ar_67; exact sz_3; omega) | (apply s_indexAO; exact rfl; exact rfl; exact ar_67; exact sz_3; omega)); (apply od_mv; exact rfl; exact rfl; apply s_load1; exact rfl; exact rfl; (apply RdN.own; (focus ((repeat constructor); done)); (first | exact GetN.cons rfl GetN.nil | (apply getN_intsAt (k := a0 * 8 + b0); omega; omega) | (apply getN_intsAt (k := b0 * 8 + a0); omega; omega)))); (apply od_mv; exact rfl; exact rfl; apply s_sub64; exact rfl; exact rfl; omega); (apply od_mv; exact rfl; exact rfl; apply s_assign; exact rfl); (apply od_nil; (first | exact Wk.refl _ _ | (focus (apply Wk.mk; exact View.le.refl _; (repeat constructor); done)))); (apply ol_nil))
                  | (refine cw_region_id 17 ?_; (apply ol_mv; exact rfl; exact rfl); (apply ol_mv; exact rfl; exact rfl); (apply ol_mv; exact rfl; exact rfl); (apply ol_val; exact rfl; apply stp_pur; apply s_buildS; exact rfl; exact fs_57; exact zb_57; (focus ((repeat (first | exact rfl | constructor)); done))); (apply ol_val; exact rfl; apply s_alloc; exact zb_57; (focus ((repeat constructor); done)); intro bk13); (apply ol_eff; apply s_storeN; exact rfl; exact rfl; exact sz_57; exact rfl; exact rfl; (focus ((repeat constructor); done)); (focus ((repeat constructor); done))); (apply ol_nil))
                  | (refine cw_region_id 18 ?_; (apply ol_mv; exact rfl; exact rfl); (apply ol_val; exact rfl; apply stp_cmp; apply s_lss; exact rfl; exact rfl; all_goals (intro hc64; try (exfalso; (first | exact hc64 rfl | omega)))); all_goals (apply ol_nil))
                  | (refine cw_region_id 19 ?_; (apply ol_mv; exact rfl; exact rfl); (apply ol_mv; exact rfl; exact rfl); (apply ol_mv; exact rfl; exact rfl); (apply ol_val; exact rfl; apply stp_pur; apply s_neg64; exact rfl; omega); (apply ol_val; exact rfl; apply stp_pur; apply s_buildS; exact rfl; exact fs_57; exact zb_57; (focus ((repeat (first | exact rfl | constructor)); done))); (apply ol_eff; apply s_storeN; exact rfl; exact rfl; exact sz_57; exact rfl; exact rfl; (focus ((repeat constructor); done)); (focus ((repeat constructor); done))); (apply ol_nil))
                  | (refine cw_region_id 20 ?_; (apply ol_fa; exact rfl; exact rfl; exact fd_57_2; (first | exact Nat.zero_add _ | exact Nat.add_zero _ | exact rfl)); (apply ol_ld; exact rfl; exact rfl; exact rfl; (apply RdN.own; (focus ((repeat constructor); done)); (first | exact GetN.cons rfl GetN.nil | (apply getN_intsAt (k := a0 * 8 + b0); omega; omega) | (apply getN_intsAt (k := b0 * 8 + a0); omega; omega)))); (apply ol_val; exact rfl; apply stp_cmp; apply s_gtr; exact rfl; exact rfl; all_goals (intro hc72; try (exfalso; (first | exact hc72 rfl | omega)))); all_goals (apply ol_nil))
                  | (refine cw_region_id 21 ?_; (apply ol_as; exact rfl; exact rfl); (apply ol_as; exact rfl; exact rfl); (apply ol_nil))
                  | (refine cw_region_id 22 ?_; (apply ol_mv; exact rfl; exact rfl); (apply ol_val; exact rfl; apply stp_cmp; apply s_neq; exact rfl; exact rfl; all_goals (intro hc74; try (exfalso; (first | exact hc74 rfl | omega)))); all_goals (apply ol_nil))
                  | (refine cw_region_id 23 ?_; (apply ol_mv; exact rfl; exact rfl); (apply ol_ldN; exact rfl; exact rfl; exact rfl; exact sz_57; (apply RdN.own; (focus ((repeat constructor); done)); (focus ((repeat (first | exact rfl | constructor)); done)))); (apply ol_val; exact rfl; apply s_buildSl; exact rfl; exact el_45; exact sz_57; exact zb_57; (focus ((repeat constructor); done)); exact rfl; exact rfl; (exact Nat.le_of_ble_eq_true rfl); (focus ((repeat constructor); done)); (focus ((repeat (first | exact Fil.nil | (apply Fil.one; exact rfl; exact rfl; (repeat (first | exact SetAt.zero | apply SetAt.succ))) | (apply Fil.agg; exact rfl; exact rfl; (repeat (first | exact SetN.nil | (apply SetN.cons; (repeat (first | exact SetAt.zero | apply SetAt.succ))))); (exact Nat.le_of_ble_eq_true rfl)))); done)); intro bk77); (apply ol_val; exact rfl; first | (apply s_append_e; exact rfl; exact rfl; (focus ((repeat constructor); done)); exact el_45; exact sz_57; exact zb_57; exact rfl; exact by_57; (first | exact (fun _ => rfl)); (first | (apply RdN.own; (focus ((repeat constructor); done)); (focus ((repeat (first | exact rfl | constructor)); done)))); (first | exact rfl); (first | omega | (simp; omega) | (simp; done)); (first | omega | (simp; omega) | (simp; done)); intro rk78 sk78 ck78 ok78) | (apply s_append_r; exact rfl; exact rfl; (focus ((repeat constructor); done)); (first | exact rfl | exact (List.append_nil _).symm); exact el_45; exact sz_57; exact zb_57; exact rfl; exact by_57; (first | exact SO.nil _ | assumption | (exact ⟨by simp, by simp, Nat.le_refl _, by simp⟩)); (first | exact (fun _ => rfl)); (first | (apply RdN.own; (focus ((repeat constructor); done)); (focus ((repeat (first | exact rfl | constructor)); done)))); (first | exact rfl); (first | omega | (simp; omega) | (simp; done)); (first | omega | (simp; omega) | (simp; done)); intro rk78 sk78 ck78 ok78) | (apply s_append_b; exact rfl; exact rfl; (focus ((repeat constructor); done)); (first | exact rfl | exact (List.append_nil _).symm); exact el_45; exact sz_57; exact zb_57; exact rfl; exact by_57; (first | exact SO.nil _ | assumption | (exact ⟨by simp, by simp, Nat.le_refl _, by simp⟩)); (first | exact (fun _ => rfl)); (first | (apply RdN.own; (focus ((repeat constructor); done)); (focus ((repeat (first | exact rfl | constructor)); done)))); (first | exact rfl); (first | omega | (simp; omega) | (simp; done)); (first | omega | (simp; omega) | (simp; done)); intro rk78 sk78 ck78 ok78) | (apply s_append_n; exact rfl; exact rfl; (focus ((repeat constructor); done)); exact el_45; exact sz_57; exact zb_57; exact rfl; exact by_57; (first | exact (fun _ => rfl)); (first | (apply RdN.own; (focus ((repeat constructor); done)); (focus ((repeat (first | exact rfl | constructor)); done)))); (first | exact rfl); (first | omega | (simp; omega) | (simp; done)); (first | omega | (simp; omega) | (simp; done)); intro rk78 sk78 ck78 ok78)); (apply ol_as; exact rfl; exact rfl); (apply ol_nil))
                  | (refine cw_region_id 15 ?_; (apply ol_mv; exact rfl; exact rfl); (apply ol_val; exact rfl; apply stp_pur; apply s_add64; exact rfl; exact rfl; omega); (apply ol_as; exact rfl; exact rfl); (apply ol_nil))
                  | (refine cw_region_id 24 ?_; (apply ol_val; exact rfl; apply stp_pur; apply s_add64; exact rfl; exact rfl; omega); (apply ol_mv; exact rfl; exact rfl); (apply ol_nil))
                  | (apply cw_cond_true; exact rfl; (first | exact rfl | assumption))
                  | (apply cw_cond_false; exact rfl; (first | exact rfl | assumption))
                  | apply cw_skip
                  | apply cw_ret
                  | apply cw_block
                  | apply cw_exit
                rw [hd1, hd2]
                refine ⟨⟨b0 + 1, out ++ [⟨a0, b0, owe a0 b0 l - owe b0 a0 l⟩], rk78, A, ck78, sk78⟩, ⟨?_, View.le.refl _, ?_, ⟨by dsimp only; omega, hb, by simp; omega, hx.symm, hnS hS, ?_⟩, by dsimp only; omega⟩⟩
                · dsimp only; rw [List.length_append]; (repeat (first | exact trivial | refine And.intro rfl ?_))
                · dsimp only; rw [flat_append, flat_one]; (repeat (first | exact Pick.nil | (apply Pick.cons; (focus ((repeat (first | exact Spl.here | apply Spl.there)); done))) | exact Pick.refl))
                · dsimp only; rw [List.length_append, flat_append, flat_one]; rw [hd1, hd2] at ok78; exact ok78
        · have : b0 = N := by omega
          subst this
          repeat' first
            | apply cw_seq
            | (refine cw_region_id 14 ?_; (apply ol_mv; exact rfl; exact rfl); (apply ol_mv; exact rfl; exact rfl); (apply ol_val; exact rfl; apply stp_cmp; apply s_lss; exact rfl; exact rfl; all_goals (intro hc45; try (exfalso; (first | exact hc45 rfl | omega)))); all_goals (apply ol_nil))
            | (refine cw_draw (id := 16) 12 (.mv 0 (.mv 1 (.mv 2 (.mv 3 (.mv 4 (.mv 5 (.mv 6 (.mv 7 (.mv 8 (.mv 9 (.mv 10 (.mv 11 (PT.nil))))))))))))) mixed (by kernel_rfl) ?_; (apply od_mv; exact rfl; exact rfl; apply s_move; exact rfl); (apply od_mv; exact rfl; exact rfl; apply s_move; exact rfl); (apply od_mv; exact rfl; exact rfl; first | (apply s_indexAK; exact rfl; exact rfl; exact ar_68; exact sz_67; omega) | (apply s_indexAO; exact rfl; exact rfl; exact ar_68; exact sz_67; omega)); (apply od_mv; exact rfl; exact rfl; first | (apply s_indexAK; exact rfl; exact rfl; exact ar_67; exact sz_3; omega) | (apply s_indexAO; exact rfl; exact rfl; exact ar_67; exact sz_3; omega)); (apply od_mv; exact rfl; exact rfl; apply s_load1; exact rfl; exact rfl; (apply RdN.own; (focus ((repeat constructor); done)); (first | exact GetN.cons rfl GetN.nil | (apply getN_ints_app; (first | omega | (simp; omega) | (simp; done))) | (apply getN_ints; (first | omega | (simp; omega) | (simp; done)))))); (apply od_mv; exact rfl; exact rfl; apply s_move; exact rfl); (apply od_mv; exact rfl; exact rfl; apply s_move; exact rfl); (apply od_mv; exact rfl; exact rfl; first | (apply s_indexAK; exact rfl; exact rfl; exact ar_68; exact sz_67; omega) | (apply s_indexAO; exact rfl; exact rfl; exact ar_68; exact sz_67; omega)); (apply od_mv; exact rfl; exact rfl; first | (apply s_indexAK; exact rfl; exact rfl; exact ar_67; exact sz_3; omega) | (apply s_indexAO; exact rfl; exact rfl; exact ar_67; exact sz_3; omega)); (apply od_mv; exact rfl; exact rfl; apply s_load1; exact rfl; exact rfl; (apply RdN.own; (focus ((repeat constructor); done)); (first | exact GetN.cons rfl GetN.nil | (apply getN_ints_app; (first | omega | (simp; omega) | (simp; done))) | (apply getN_ints; (first | omega | (simp; omega) | (simp; done)))))); (apply od_mv; exact rfl; exact rfl; apply s_sub64; exact rfl; exact rfl; omega); (apply od_mv; exact rfl; exact rfl; apply s_assign; exact rfl); (apply od_nil; (first | exact Wk.refl _ _ | (focus (apply Wk.mk; exact View.le.refl _; (repeat constructor); done)))); (apply ol_nil))
            | (refine cw_region_id 17 ?_; (apply ol_mv; exact rfl; exact rfl); (apply ol_mv; exact rfl; exact rfl); (apply ol_mv; exact rfl; exact rfl); (apply ol_val; exact rfl; apply stp_pur; apply s_buildS; exact rfl; exact fs_57; exact zb_57; (focus ((repeat (first | exact rfl | constructor)); done))); (apply ol_val; exact rfl; apply s_alloc; exact zb_57; (focus ((repeat constructor); done)); intro bk13); (apply ol_eff; apply s_storeN; exact rfl; exact rfl; exact sz_57; exact rfl; exact rfl; (focus ((repeat constructor); done)); (focus ((repeat constructor); done))); (apply ol_nil))
            | (refine cw_region_id 18 ?_; (apply ol_mv; exact rfl; exact rfl); (apply ol_val; exact rfl; apply stp_cmp; apply s_lss; exact rfl; exact rfl; all_goals (intro hc64; try (exfalso; (first | exact hc64 rfl | omega)))); all_goals (apply ol_nil))
            | (refine cw_region_id 19 ?_; (apply ol_mv; exact rfl; exact rfl); (apply ol_mv; exact rfl; exact rfl); (apply ol_mv; exact rfl; exact rfl); (apply ol_val; exact rfl; apply stp_pur; apply s_neg64; exact rfl; omega); (apply ol_val; exact rfl; apply stp_pur; apply s_buildS; exact rfl; exact fs_57; exact zb_57; (focus ((repeat (first | exact rfl | constructor)); done))); (apply ol_eff; apply s_storeN; exact rfl; exact rfl; exact sz_57; exact rfl; exact rfl; (focus ((repeat constructor); done)); (focus ((repeat constructor); done))); (apply ol_nil))
            | (refine cw_region_id 20 ?_; (apply ol_fa; exact rfl; exact rfl; exact fd_57_2; (first | exact Nat.zero_add _ | exact Nat.add_zero _ | exact rfl)); (apply ol_ld; exact rfl; exact rfl; exact rfl; (apply RdN.own; (focus ((repeat constructor); done)); (first | exact GetN.cons rfl GetN.nil | (apply getN_ints_app; (first | omega | (simp; omega) | (simp; done))) | (apply getN_ints; (first | omega | (simp; omega) | (simp; done)))))); (apply ol_val; exact rfl; apply stp_cmp; apply s_gtr; exact rfl; exact rfl; all_goals (intro hc72; try (exfalso; (first | exact hc72 rfl | omega)))); all_goals (apply ol_nil))
            | (refine cw_region_id 21 ?_; (apply ol_as; exact rfl; exact rfl); (apply ol_as; exact rfl; exact rfl); (apply ol_nil))
            | (refine cw_region_id 22 ?_; (apply ol_mv; exact rfl; exact rfl); (apply ol_val; exact rfl; apply stp_cmp; apply s_neq; exact rfl; exact rfl; all_goals (intro hc74; try (exfalso; (first | exact hc74 rfl | omega)))); all_goals (apply ol_nil))
            | (refine cw_region_id 23 ?_; (apply ol_mv; exact rfl; exact rfl); (apply ol_ldN; exact rfl; exact rfl; exact rfl; exact sz_57; (apply RdN.own; (focus ((repeat constructor); done)); (focus ((repeat (first | exact rfl | constructor)); done)))); (apply ol_val; exact rfl; apply s_buildSl; exact rfl; exact el_45; exact sz_57; exact zb_57; (focus ((repeat constructor); done)); exact rfl; exact rfl; (exact Nat.le_of_ble_eq_true rfl); (focus ((repeat constructor); done)); (focus ((repeat (first | exact Fil.nil | (apply Fil.one; exact rfl; exact rfl; (repeat (first | exact SetAt.zero | apply SetAt.succ))) | (apply Fil.agg; exact rfl; exact rfl; (repeat (first | exact SetN.nil | (apply SetN.cons; (repeat (first | exact SetAt.zero | apply SetAt.succ))))); (exact Nat.le_of_ble_eq_true rfl)))); done)); intro bk77); (apply ol_val; exact rfl; first | (apply s_append_e; exact rfl; exact rfl; (focus ((repeat constructor); done)); exact el_45; exact sz_57; exact zb_57; exact rfl; exact by_57; (first | exact (fun _ => rfl)); (first | (apply RdN.own; (focus ((repeat constructor); done)); (focus ((repeat (first | exact rfl | constructor)); done)))); (first | exact rfl); (first | omega | (simp; omega) | (simp; done)); (first | omega | (simp; omega) | (simp; done)); intro rk78 sk78 ck78 ok78) | (apply s_append_r; exact rfl; exact rfl; (focus ((repeat constructor); done)); (first | exact rfl | exact (List.append_nil _).symm); exact el_45; exact sz_57; exact zb_57; exact rfl; exact by_57; (first | exact SO.nil _ | assumption | (exact ⟨by simp, by simp, Nat.le_refl _, by simp⟩)); (first | exact (fun _ => rfl)); (first | (apply RdN.own; (focus ((repeat constructor); done)); (focus ((repeat (first | exact rfl | constructor)); done)))); (first | exact rfl); (first | omega | (simp; omega) | (simp; done)); (first | omega | (simp; omega) | (simp; done)); intro rk78 sk78 ck78 ok78) | (apply s_append_b; exact rfl; exact rfl; (focus ((repeat constructor); done)); (first | exact rfl | exact (List.append_nil _).symm); exact el_45; exact sz_57; exact zb_57; exact rfl; exact by_57; (first | exact SO.nil _ | assumption | (exact ⟨by simp, by simp, Nat.le_refl _, by simp⟩)); (first | exact (fun _ => rfl)); (first | (apply RdN.own; (focus ((repeat constructor); done)); (focus ((repeat (first | exact rfl | constructor)); done)))); (first | exact rfl); (first | omega | (simp; omega) | (simp; done)); (first | omega | (simp; omega) | (simp; done)); intro rk78 sk78 ck78 ok78) | (apply s_append_n; exact rfl; exact rfl; (focus ((repeat constructor); done)); exact el_45; exact sz_57; exact zb_57; exact rfl; exact by_57; (first | exact (fun _ => rfl)); (first | (apply RdN.own; (focus ((repeat constructor); done)); (focus ((repeat (first | exact rfl | constructor)); done)))); (first | exact rfl); (first | omega | (simp; omega) | (simp; done)); (first | omega | (simp; omega) | (simp; done)); intro rk78 sk78 ck78 ok78)); (apply ol_as; exact rfl; exact rfl); (apply ol_nil))
            | (refine cw_region_id 15 ?_; (apply ol_mv; exact rfl; exact rfl); (apply ol_val; exact rfl; apply stp_pur; apply s_add64; exact rfl; exact rfl; omega); (apply ol_as; exact rfl; exact rfl); (apply ol_nil))
            | (refine cw_region_id 24 ?_; (apply ol_val; exact rfl; apply stp_pur; apply s_add64; exact rfl; exact rfl; omega); (apply ol_mv; exact rfl; exact rfl); (apply ol_nil))
            | (apply cw_cond_true; exact rfl; (first | exact rfl | assumption))
            | (apply cw_cond_false; exact rfl; (first | exact rfl | assumption))
            | apply cw_skip
            | apply cw_ret
            | apply cw_block
            | apply cw_exit
          refine ⟨⟨a0 + 1, out, r, A, c1, sp⟩, ⟨by (repeat (first | exact trivial | refine And.intro rfl ?_)), View.le.refl _, by (repeat (first | exact Pick.nil | (apply Pick.cons; (focus ((repeat (first | exact Spl.here | apply Spl.there)); done))) | exact Pick.refl)), ⟨ha, by dsimp only; omega, by rw [allP_succ]; exact i3, by rw [allP_succ]; exact i4, so⟩, by dsimp only; omega⟩⟩
      · have : a0 = N := by omega
        subst this
        rw [show Bil a0 l = (out, true) by unfold Bil; rw [if_pos h4, ← h3]] at hr
        obtain ⟨rfl, rfl⟩ := Prod.mk.inj hr
        repeat' first
          | apply cw_seq
          | (refine cw_region_id 11 ?_; (apply ol_val; exact rfl; apply stp_cmp; apply s_lss; exact rfl; exact rfl; all_goals (intro hc39; try (exfalso; (first | exact hc39 rfl | omega)))); all_goals (apply ol_nil))
          | (refine cw_region_id 12 ?_; (apply ol_mv; exact rfl; exact rfl); (apply ol_as; exact rfl; exact rfl); (apply ol_nil))
          | (refine cw_region_id 13 ?_; (apply ol_mv; exact rfl; exact rfl); (apply ol_val; exact rfl; apply stp_pur; apply s_add64; exact rfl; exact rfl; omega); (apply ol_as; exact rfl; exact rfl); (apply ol_nil))
          | (refine cw_region_id 25 ?_; (apply ol_mv; exact rfl; exact rfl); (apply ol_as; exact rfl; exact rfl); (apply ol_as; exact rfl; exact rfl); (apply ol_nil))
          | (apply cw_cond_true; exact rfl; (first | exact rfl | assumption))
          | (apply cw_cond_false; exact rfl; (first | exact rfl | assumption))
          | apply cw_skip
          | apply cw_ret
          | apply cw_block
          | apply cw_exit
        refine ends [⟨r, flat C3.enc out ++ sp, 57⟩] (RVal.tmp rfl (RVal.tmp rfl RVal.nil)) (by (repeat (first | exact Pick.nil | (apply Pick.cons; (focus ((repeat (first | exact Spl.here | apply Spl.there)); done))) | exact Pick.refl))) ?_
        exact ⟨r, A, c1, sp, rfl, rfl, so⟩
end Go.Proofs.Ytidjoikheklpiaa
