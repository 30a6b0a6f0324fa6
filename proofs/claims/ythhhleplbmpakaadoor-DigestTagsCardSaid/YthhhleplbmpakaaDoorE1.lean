/-
  Streams: plain facts; slices joined, compared, copied: their walks.
-/
import Derived.Test.YthhhleplbmpakaaDoorW13
import Derived.Test.YthhhleplbmpakaaDoorFw18
namespace Go.Proofs.YthhhleplbmpakaaDoor
set_option maxRecDepth 20000
set_option linter.unusedSimpArgs false
set_option linter.unusedVariables false
open Go Go.Fw
/-- The first k blocks of the stream of a digest. -/
def strm (h : List Int) : Nat → List Int
  | 0 => []
  | k + 1 => strm h k ++ sha (h ++ be8 (k : Int))
theorem strm_length (h : List Int) : ∀ k, (strm h k).length = 32 * k
  | 0 => rfl
  | k + 1 => by simp [strm, strm_length h k, sha_length]; omega
theorem strm_b (h : List Int) : ∀ k, isB (strm h k)
  | 0 => isB_nil
  | k + 1 => (strm_b h k).append (isB_sha _)
theorem strm_take (h : List Int) {n k : Nat} : ∀ {m : Nat}, k ≤ m → n ≤ 32 * k → (strm h m).take n = (strm h k).take n
  | 0, hk, hn => by
    have : k = 0 := by omega
    subst this; rfl
  | m + 1, hk, hn => by
    by_cases e : k = m + 1
    · subst e; rfl
    · have ih := strm_take h (m := m) (by omega) hn
      have hl := strm_length h m
      rw [← ih]
      show (strm h m ++ _).take n = _
      rw [List.take_append_of_le_length (by omega)]
/-- The beginning of the stream. -/
def stm (h : List Int) (n : Nat) : List Int := (strm h ((n + 31) / 32)).take n
theorem stm_length (h : List Int) (n : Nat) : (stm h n).length = n := by
  unfold stm
  have := strm_length h ((n + 31) / 32)
  simp; omega
theorem stm_b (h : List Int) (n : Nat) : isB (stm h n) := by
  have := (strm_b h ((n + 31) / 32)).part 0 n
  rwa [List.drop_zero] at this
theorem stm_take (h : List Int) {k n : Nat} (hk : k ≤ n) : (stm h n).take k = stm h k := by
  unfold stm
  rw [List.take_take, Nat.min_eq_left hk]
  exact strm_take h (by omega) (by omega)

/-- A row that the call hands back, whatever its places. -/
def RowAny (k : IntKind) (T : Nat) (xs : List Int) (v : Value) (new : List OB) : Prop :=
  ∃ r A cap sp, v = .slice (base r A) xs.length cap ∧ new = [⟨r, flat (eK k) xs ++ sp, T⟩] ∧ (r = none → xs = [])
theorem SlA.ownK {w : World} {r : Option Nat} {A : Option Addr} {k : IntKind} {xs : List Int} {sp : List Value} {T : TypeId} (hok : OB.ok ⟨r, flat (eK k) xs ++ sp, T⟩ w) (hn : r = none → xs = []) : SlA (View.of w) (eK k) 1 (base r A) xs (r.getD 0) 0 := SlA.own (eK_length k) hok hn
theorem slicedA_base {r : Option Nat} {m sz : Nat} : slicedA (base r none) 0 m sz = base r none := by
  cases r with
  | none => unfold slicedA base; split <;> rfl
  | some b => exact slicedA_zero
end Go.Proofs.YthhhleplbmpakaaDoor
namespace Go.Proofs.YthhhleplbmpakaaDoor
set_option maxRecDepth 20000
set_option linter.unusedSimpArgs false
set_option linter.unusedVariables false
open Go Go.Fw
attribute [local irreducible] CW OL OD FX Stp FnC Ret sha strOf
set_option maxHeartbeats 800000
theorem cloneS_spec {w : World} {M : View} (hM : View.le M (View.of w)) {xs : List Int} {n : Nat} (e1 : xs.length = n) {a : Option Addr} {b o c : Nat} (s : SlA M (eK .u8) 1 a xs b o) (hl : xs.length ≤ 4294967296) :
    FnC Tryd.prog 21 [.slice a n c] w (RowRes (eK .u8) 1 5 xs) := by
  subst e1
  refine enterF (M := M) Tryd.func21 rfl rfl rfl rfl hM ?_
  refine cw_none 5 ?_
  repeat' first
    | apply cw_seq
    | (refine cw_region_id 0 ?_; (apply ol_as; exact rfl; exact rfl); (apply ol_nil))
    | (refine cw_region_id 1 ?_; (apply ol_mv; exact rfl; exact rfl); (apply ol_val; exact rfl; apply stp_cmp; apply s_eqnil; exact rfl; exact el_22; all_goals (intro _; try (exfalso; (first | (rename_i hh; exact hh rfl) | omega)))); all_goals (apply ol_nil))
    | (refine cw_region_id 2 ?_; (apply ol_as; exact rfl; exact rfl); (apply ol_nil))
    | (refine cw_region_id 3 ?_; (apply ol_val; exact rfl; apply s_buildSl; exact rfl; exact el_22; exact sz_5; exact zb_5; (focus ((repeat constructor); done)); exact rfl; exact rfl; (exact Nat.le_of_ble_eq_true rfl); (focus ((repeat constructor); done)); (focus ((repeat (first | exact rfl | constructor)); done)); intro _); (apply ol_mv; exact rfl; exact rfl); (apply ol_val; exact rfl; first | (apply s_append_e; exact rfl; exact rfl; (focus ((repeat constructor); done)); exact el_22; exact sz_5; exact zb_5; exact rfl; exact by_5; (first | exact (fun _ => rfl) | (intro _; exact s.at_ (by omega))); (first | (apply RdN.own; (focus ((repeat constructor); done)); (focus ((repeat (first | exact rfl | constructor)); done))) | (apply RdN.view; exact SlA.all (eK_length .u8) s)); (first | exact rfl | exact ones_flat (eK_ones .u8) _); (first | omega | (simp; omega) | (simp; done)); (first | omega | (simp; omega) | (simp; done)); intro _ _ _ _) | (apply s_append_r; exact rfl; exact rfl; (focus ((repeat constructor); done)); (first | exact rfl | exact (List.append_nil _).symm); exact el_22; exact sz_5; exact zb_5; exact rfl; exact by_5; (first | exact SO.nil _ | assumption | (exact ⟨by simp, by simp, Nat.le_refl _, by simp⟩)); (first | exact (fun _ => rfl) | (intro _; exact s.at_ (by omega))); (first | (apply RdN.own; (focus ((repeat constructor); done)); (focus ((repeat (first | exact rfl | constructor)); done))) | (apply RdN.view; exact SlA.all (eK_length .u8) s)); (first | exact rfl | exact ones_flat (eK_ones .u8) _); (first | omega | (simp; omega) | (simp; done)); (first | omega | (simp; omega) | (simp; done)); intro _ _ _ _) | (apply s_append_b; exact rfl; exact rfl; (focus ((repeat constructor); done)); (first | exact rfl | exact (List.append_nil _).symm); exact el_22; exact sz_5; exact zb_5; exact rfl; exact by_5; (first | exact SO.nil _ | assumption | (exact ⟨by simp, by simp, Nat.le_refl _, by simp⟩)); (first | exact (fun _ => rfl) | (intro _; exact s.at_ (by omega))); (first | (apply RdN.own; (focus ((repeat constructor); done)); (focus ((repeat (first | exact rfl | constructor)); done))) | (apply RdN.view; exact SlA.all (eK_length .u8) s)); (first | exact rfl | exact ones_flat (eK_ones .u8) _); (first | omega | (simp; omega) | (simp; done)); (first | omega | (simp; omega) | (simp; done)); intro _ _ _ _) | (apply s_append_n; exact rfl; exact rfl; (focus ((repeat constructor); done)); exact el_22; exact sz_5; exact zb_5; exact rfl; exact by_5; (first | exact (fun _ => rfl) | (intro _; exact s.at_ (by omega))); (first | (apply RdN.own; (focus ((repeat constructor); done)); (focus ((repeat (first | exact rfl | constructor)); done))) | (apply RdN.view; exact SlA.all (eK_length .u8) s)); (first | exact rfl | exact ones_flat (eK_ones .u8) _); (first | omega | (simp; omega) | (simp; done)); (first | omega | (simp; omega) | (simp; done)); intro _ _ _ _)); (apply ol_as; exact rfl; exact rfl); (apply ol_nil))
    | (apply cw_cond_true; exact rfl; (first | exact rfl | assumption))
    | (apply cw_cond_false; exact rfl; (first | exact rfl | assumption))
    | apply cw_skip
    | apply cw_ret
    | apply cw_block
    | apply cw_exit
  · rename_i h
    have hx : xs = [] := by
      cases xs with
      | nil => rfl
      | cons x xs => have := s.at_ (by simp); rw [this] at h; cases h
    subst hx
    refine ends [⟨none, [], 5⟩] (by (repeat (first | exact RVal.nil | (apply RVal.tmp; exact rfl) | (apply RVal.cellN; exact rfl; exact rfl; (fail); apply RdN.own; (focus ((repeat (first | exact Has.here | apply Has.there)); done)); (focus ((repeat (first | exact GetN.nil | (apply GetN.cons; exact rfl))); done))) | (apply RVal.cell1; exact rfl; exact rfl; apply RdN.own; (focus ((repeat (first | exact Has.here | apply Has.there)); done)); exact GetN.cons rfl GetN.nil)))) (by (repeat (first | exact Pick.nil | (apply Pick.cons; (focus ((repeat (first | exact Spl.here | apply Spl.there)); done))) | exact Pick.refl))) ?_
    exact ⟨none, none, 0, [], rfl, rfl, SO.nil 1⟩
  · rename_i bb r sp cap so
    refine ends [⟨r, flat (eK .u8) xs ++ sp, 5⟩] (by (repeat (first | exact RVal.nil | (apply RVal.tmp; exact rfl) | (apply RVal.cellN; exact rfl; exact rfl; (fail); apply RdN.own; (focus ((repeat (first | exact Has.here | apply Has.there)); done)); (focus ((repeat (first | exact GetN.nil | (apply GetN.cons; exact rfl))); done))) | (apply RVal.cell1; exact rfl; exact rfl; apply RdN.own; (focus ((repeat (first | exact Has.here | apply Has.there)); done)); exact GetN.cons rfl GetN.nil)))) (by (repeat (first | exact Pick.nil | (apply Pick.cons; (focus ((repeat (first | exact Spl.here | apply Spl.there)); done))) | exact Pick.refl))) ?_
    exact ⟨r, none, cap, sp, rfl, rfl, so⟩

theorem concatGrow_spec {w : World} {n : Nat} (hn : n ≤ 1073741824) :
    FnC Tryd.prog 50 [.slice none 0 0, .int .i64 (n : Nat)] w (fun v new => ∃ r cap sp, v = .slice (base r none) 0 cap ∧ new = [⟨r, sp, 5⟩] ∧ SO r 0 cap [] sp 1) := by
  refine enterF (M := View.of w) Tryd.func50 rfl rfl rfl rfl (View.le.refl _) ?_
  refine cw_none 5 ?_
  by_cases h0 : n = 0
  · subst h0
    repeat' first
      | apply cw_seq
      | (refine cw_region_id 0 ?_; (apply ol_as; exact rfl; exact rfl); (apply ol_nil))
      | (refine cw_region_id 1 ?_; (apply ol_mv; exact rfl; exact rfl); (apply ol_val; exact rfl; apply stp_cmp; apply s_lss; exact rfl; exact rfl; all_goals (intro hc6; try (exfalso; (first | exact hc6 rfl | omega)))); all_goals (apply ol_nil))
      | (refine cw_region_id 2 ?_)
      | (refine cw_region_id 3 ?_; (apply ol_mv; exact rfl; exact rfl); (apply ol_mv; exact rfl; exact rfl); (apply ol_val; exact rfl; apply stp_pur; apply s_cap; exact rfl; exact el_22); (apply ol_mv; exact rfl; exact rfl); (apply ol_val; exact rfl; apply stp_pur; apply s_len; exact rfl; exact el_22); (apply ol_val; exact rfl; apply stp_pur; apply s_sub64; exact rfl; exact rfl; omega); (apply ol_val; exact rfl; apply stp_pur; apply s_sub64; exact rfl; exact rfl; omega); (apply ol_as; exact rfl; exact rfl); (apply ol_nil))
      | (refine cw_region_id 4 ?_; (apply ol_mv; exact rfl; exact rfl); (apply ol_val; exact rfl; apply stp_cmp; apply s_gtr; exact rfl; exact rfl; all_goals (intro hc16; try (exfalso; (first | exact hc16 rfl | omega)))); all_goals (apply ol_nil))
      | (refine cw_region_id 5 ?_; (apply ol_mv; exact rfl; exact rfl); (apply ol_mv; exact rfl; exact rfl); (apply ol_val; exact rfl; apply stp_pur; apply s_cap; exact rfl; exact el_22); (apply ol_val; exact rfl; apply stp_pur; apply s_slice; exact rfl; exact el_22; exact sz_5; exact rfl; exact Exists.intro _ rfl; exact rfl; (intro h; first | exact rfl | cases h); (first | omega | (simp; omega) | (simp; done)); (first | omega | (simp; omega) | (simp; done)); (first | omega | (simp; omega) | (simp; done))); (apply ol_mv; exact rfl; exact rfl); (apply ol_val; exact rfl; apply s_appendZ; exact rfl; exact rfl; (focus ((repeat constructor); done)); exact el_22; exact ti_3; exact sz_5; exact zb_5; exact rfl; exact by_5; exact rfl; omega; omega; omega; intro bk22 sk22 ck22 zk22 lk22); (apply ol_mv; exact rfl; exact rfl); (apply ol_val; exact rfl; apply stp_pur; apply s_len; exact rfl; exact el_22); (apply ol_val; exact rfl; apply stp_pur; apply s_slice; exact rfl; exact el_22; exact sz_5; exact rfl; exact Exists.intro _ rfl; exact rfl; (intro h; first | exact rfl | cases h); (first | omega | (simp; omega) | (simp; done)); (first | omega | (simp; omega) | (simp; done)); (first | omega | (simp; omega) | (simp; done))); (apply ol_as; exact rfl; exact rfl); (apply ol_nil))
      | (refine cw_region_id 6 ?_; (apply ol_mv; exact rfl; exact rfl); (apply ol_as; exact rfl; exact rfl); (apply ol_nil))
      | (apply cw_cond_true; exact rfl; (first | exact rfl | assumption))
      | (apply cw_cond_false; exact rfl; (first | exact rfl | assumption))
      | apply cw_skip
      | apply cw_ret
      | apply cw_block
      | apply cw_exit
    refine ends [⟨none, [], 5⟩] (RVal.tmp rfl RVal.nil) (by (repeat (first | exact Pick.nil | (apply Pick.cons; (focus ((repeat (first | exact Spl.here | apply Spl.there)); done))) | exact Pick.refl))) ?_
    exact ⟨none, 0, [], rfl, rfl, SO.nil 1⟩
  ·
    repeat' first
      | apply cw_seq
      | (refine cw_region_id 0 ?_; (apply ol_as; exact rfl; exact rfl); (apply ol_nil))
      | (refine cw_region_id 1 ?_; (apply ol_mv; exact rfl; exact rfl); (apply ol_val; exact rfl; apply stp_cmp; apply s_lss; exact rfl; exact rfl; all_goals (intro hc6; try (exfalso; (first | exact hc6 rfl | omega)))); all_goals (apply ol_nil))
      | (refine cw_region_id 2 ?_)
      | (refine cw_region_id 3 ?_; (apply ol_mv; exact rfl; exact rfl); (apply ol_mv; exact rfl; exact rfl); (apply ol_val; exact rfl; apply stp_pur; apply s_cap; exact rfl; exact el_22); (apply ol_mv; exact rfl; exact rfl); (apply ol_val; exact rfl; apply stp_pur; apply s_len; exact rfl; exact el_22); (apply ol_val; exact rfl; apply stp_pur; apply s_sub64; exact rfl; exact rfl; omega); (apply ol_val; exact rfl; apply stp_pur; apply s_sub64; exact rfl; exact rfl; omega); (apply ol_as; exact rfl; exact rfl); (apply ol_nil))
      | (refine cw_region_id 4 ?_; (apply ol_mv; exact rfl; exact rfl); (apply ol_val; exact rfl; apply stp_cmp; apply s_gtr; exact rfl; exact rfl; all_goals (intro hc16; try (exfalso; (first | exact hc16 rfl | omega)))); all_goals (apply ol_nil))
      | (refine cw_region_id 5 ?_; (apply ol_mv; exact rfl; exact rfl); (apply ol_mv; exact rfl; exact rfl); (apply ol_val; exact rfl; apply stp_pur; apply s_cap; exact rfl; exact el_22); (apply ol_val; exact rfl; apply stp_pur; apply s_slice; exact rfl; exact el_22; exact sz_5; exact rfl; exact Exists.intro _ rfl; exact rfl; (intro h; first | exact rfl | cases h); (first | omega | (simp; omega) | (simp; done)); (first | omega | (simp; omega) | (simp; done)); (first | omega | (simp; omega) | (simp; done))); (apply ol_mv; exact rfl; exact rfl); (apply ol_val; exact rfl; apply s_appendZ (m := n); exact rfl; (refine congrArg some (congrArg (Value.int .i64) ?_); omega); (focus ((repeat constructor); done)); exact el_22; exact ti_3; exact sz_5; exact zb_5; exact rfl; exact by_5; exact rfl; omega; omega; omega; intro bk22 sk22 ck22 zk22 lk22); (apply ol_mv; exact rfl; exact rfl); (apply ol_val; exact rfl; apply stp_pur; apply s_len; exact rfl; exact el_22); (apply ol_val; exact rfl; apply stp_pur; apply s_slice; exact rfl; exact el_22; exact sz_5; exact rfl; exact Exists.intro _ rfl; exact rfl; (intro h; first | exact rfl | cases h); (first | omega | (simp; omega) | (simp; done)); (first | omega | (simp; omega) | (simp; done)); (first | omega | (simp; omega) | (simp; done))); (apply ol_as; exact rfl; exact rfl); (apply ol_nil))
      | (refine cw_region_id 6 ?_; (apply ol_mv; exact rfl; exact rfl); (apply ol_as; exact rfl; exact rfl); (apply ol_nil))
      | (apply cw_cond_true; exact rfl; (first | exact rfl | assumption))
      | (apply cw_cond_false; exact rfl; (first | exact rfl | assumption))
      | apply cw_skip
      | apply cw_ret
      | apply cw_block
      | apply cw_exit
    refine ends [⟨some bk22, sk22, 5⟩] (RVal.tmp rfl RVal.nil) (by (repeat (first | exact Pick.nil | (apply Pick.cons; (focus ((repeat (first | exact Spl.here | apply Spl.there)); done))) | exact Pick.refl))) ?_
    refine ⟨some bk22, ck22, sk22, ?_, rfl, ⟨by simp, by simpa using lk22, by omega, by simp⟩⟩
    simp [tup, slicedA_zero, base]

structure concatSt where
  k : Nat
  r : Option Nat
  A : Option Addr
  c : Nat
  sp : List Value

theorem concat_spec {M : View} {w : World} (hM : View.le M (View.of w)) {L : List (Sl Int)} {n : Nat} (hn : L.length = n) {A : Option Addr} {b o c : Nat} (s : SlA M Sl.enc 1 A L b o) (hs : ∀ x ∈ L, SlA M (eK .u8) 1 x.a x.xs x.b x.o) (hl : catLen L ≤ 1073741824) (hL : L.length ≤ 1073741824) :
    FnC Tryd.prog 30 [.slice A n c] w (RowRes (eK .u8) 1 5 (catAll L)) := by
  subst hn
  refine enterF (M := M) Tryd.func30 rfl rfl rfl rfl hM ?_
  repeat' first
    | apply cw_seq
    | (refine cw_region_id 0 ?_; (apply ol_as; exact rfl; exact rfl); (apply ol_nil))
    | (refine cw_region_id 1 ?_; (apply ol_as; exact rfl; exact rfl); (apply ol_nil))
    | (refine cw_region_id 2 ?_; (apply ol_mv; exact rfl; exact rfl); (apply ol_val; exact rfl; apply stp_pur; apply s_len; exact rfl; exact el_82); (apply ol_mv; exact rfl; exact rfl); (apply ol_nil))
    | (apply cw_cond_true; exact rfl; (first | exact rfl | assumption))
    | (apply cw_cond_false; exact rfl; (first | exact rfl | assumption))
    | apply cw_skip
    | apply cw_ret
    | apply cw_block
    | apply cw_exit
  refine cw_loopK (σ := Nat) [0, 9, 10] (by (repeat (first | exact Keep.nil | (apply Keep.cons; exact rfl)))) (fun k => [(3, .int .i64 (catLen (L.take k))), (11, .int .i64 k)]) (fun _ => M) (fun _ => []) (fun k => k ≤ L.length) (fun k => L.length - k) 0 (by (repeat (first | exact trivial | refine And.intro rfl ?_))) (View.le.refl _) (by (repeat (first | exact Pick.nil | (apply Pick.cons; (focus ((repeat (first | exact Spl.here | apply Spl.there)); done))) | exact Pick.refl))) (by omega) ?_
  intro k hk
  have hc := catLen_take L k
  by_cases hk' : k < L.length
  · have hc' := catLen_take L (k + 1)
    have hst : catLen (L.take (k + 1)) = catLen (L.take k) + L[k].xs.length := by rw [List.take_succ_eq_append_getElem hk', catLen_snoc]
    repeat' first
      | apply cw_seq
      | (refine cw_region_id 3 ?_; (apply ol_val; exact rfl; apply stp_cmp; apply s_lss; exact rfl; exact rfl; all_goals (intro hc12; try (exfalso; (first | exact hc12 rfl | omega)))); all_goals (apply ol_nil))
      | (refine cw_region_id 4 ?_; (apply ol_val; exact rfl; apply stp_pur; first | (apply s_indexK; exact rfl; exact rfl; exact el_82; exact sz_22; (first | exact rfl | exact s.at_ (by omega)); omega) | (apply s_indexO; exact rfl; exact rfl; exact el_82; exact sz_22; (first | exact rfl | exact s.at_ (by omega)); omega)); (apply ol_ld; exact rfl; exact rfl; exact rfl; (first | (apply RdN.own; (focus ((repeat constructor); done)); exact GetN.cons rfl GetN.nil) | (apply RdN.view; exact s.cells k hk'))); (apply ol_as; exact rfl; exact rfl); (apply ol_nil))
      | (refine cw_region_id 5 ?_; (apply ol_mv; exact rfl; exact rfl); (apply ol_mv; exact rfl; exact rfl); (apply ol_val; exact rfl; apply stp_pur; apply s_len; exact rfl; exact el_22); (apply ol_val; exact rfl; apply stp_pur; apply s_add64; exact rfl; exact rfl; omega); (apply ol_as; exact rfl; exact rfl); (apply ol_nil))
      | (refine cw_region_id 6 ?_; (apply ol_mv; exact rfl; exact rfl); (apply ol_val; exact rfl; apply stp_cmp; apply s_lss; exact rfl; exact rfl; all_goals (intro hc20; try (exfalso; (first | exact hc20 rfl | omega)))); all_goals (apply ol_nil))
      | (refine cw_region_id 7 ?_)
      | (refine cw_region_id 8 ?_; (apply ol_val; exact rfl; apply stp_pur; apply s_add64; exact rfl; exact rfl; omega); (apply ol_mv; exact rfl; exact rfl); (apply ol_nil))
      | (refine cw_region_id 9 ?_; (apply ol_mv; exact rfl; exact rfl))
      | (refine cw_region_id 10 ?_; (apply ol_mv; exact rfl; exact rfl); (apply ol_val; exact rfl; apply stp_pur; apply s_len; exact rfl; exact el_82); (apply ol_mv; exact rfl; exact rfl); (apply ol_nil))
      | (apply cw_cond_true; exact rfl; (first | exact rfl | assumption))
      | (apply cw_cond_false; exact rfl; (first | exact rfl | assumption))
      | apply cw_skip
      | apply cw_ret
      | apply cw_block
      | apply cw_exit
    refine ⟨k + 1, ⟨?_, View.le.refl _, by (repeat (first | exact Pick.nil | (apply Pick.cons; (focus ((repeat (first | exact Spl.here | apply Spl.there)); done))) | exact Pick.refl)), hk', by omega⟩⟩
    rw [hst]
    (repeat (first | exact trivial | refine And.intro rfl ?_))
  · have : k = L.length := by omega
    subst this
    rw [List.take_length]
    repeat' first
      | apply cw_seq
      | (refine cw_region_id 3 ?_; (apply ol_val; exact rfl; apply stp_cmp; apply s_lss; exact rfl; exact rfl; all_goals (intro hc12; try (exfalso; (first | exact hc12 rfl | omega)))); all_goals (apply ol_nil))
      | (refine cw_region_id 4 ?_; (apply ol_val; exact rfl; apply stp_pur; first | (apply s_indexK; exact rfl; exact rfl; exact el_82; exact sz_22; (first | exact rfl); omega) | (apply s_indexO; exact rfl; exact rfl; exact el_82; exact sz_22; (first | exact rfl); omega)); (apply ol_ld; exact rfl; exact rfl; exact rfl; (apply RdN.own; (focus ((repeat constructor); done)); exact GetN.cons rfl GetN.nil)); (apply ol_as; exact rfl; exact rfl); (apply ol_nil))
      | (refine cw_region_id 5 ?_; (apply ol_mv; exact rfl; exact rfl); (apply ol_mv; exact rfl; exact rfl); (apply ol_val; exact rfl; apply stp_pur; apply s_len; exact rfl; exact el_22); (apply ol_val; exact rfl; apply stp_pur; apply s_add64; exact rfl; exact rfl; omega); (apply ol_as; exact rfl; exact rfl); (apply ol_nil))
      | (refine cw_region_id 6 ?_; (apply ol_mv; exact rfl; exact rfl); (apply ol_val; exact rfl; apply stp_cmp; apply s_lss; exact rfl; exact rfl; all_goals (intro hc20; try (exfalso; (first | exact hc20 rfl | omega)))); all_goals (apply ol_nil))
      | (refine cw_region_id 7 ?_)
      | (refine cw_region_id 8 ?_; (apply ol_val; exact rfl; apply stp_pur; apply s_add64; exact rfl; exact rfl; omega); (apply ol_mv; exact rfl; exact rfl); (apply ol_nil))
      | (refine cw_region_id 9 ?_; (apply ol_mv; exact rfl; exact rfl); (apply ol_val; exact rfl; apply s_call; exact rfl; exact gf_50; (intro w' hw'; exact concatGrow_spec hl); ((intro v new h; obtain ⟨r, cap, sp, rfl, rfl, so⟩ := h))); (apply ol_as; exact rfl; exact rfl); (apply ol_nil))
      | (refine cw_region_id 10 ?_; (apply ol_mv; exact rfl; exact rfl); (apply ol_val; exact rfl; apply stp_pur; apply s_len; exact rfl; exact el_82); (apply ol_mv; exact rfl; exact rfl); (apply ol_nil))
      | (apply cw_cond_true; exact rfl; (first | exact rfl | assumption))
      | (apply cw_cond_false; exact rfl; (first | exact rfl | assumption))
      | apply cw_skip
      | apply cw_ret
      | apply cw_block
      | apply cw_exit
    refine cw_loopK (σ := concatSt) [25, 26] (by (repeat (first | exact Keep.nil | (apply Keep.cons; exact rfl)))) (fun s => [(6, .slice (base s.r s.A) (catLen (L.take s.k)) s.c), (27, .int .i64 s.k)]) (fun _ => M) (fun s => [⟨s.r, flat (eK .u8) (catAll (L.take s.k)) ++ s.sp, 5⟩]) (fun s => s.k ≤ L.length ∧ SO s.r (catLen (L.take s.k)) s.c (flat (eK .u8) (catAll (L.take s.k))) s.sp 1) (fun s => L.length - s.k) ⟨0, r, none, cap, sp⟩ (by (repeat (first | exact trivial | refine And.intro rfl ?_))) (View.le.refl _) (by (repeat (first | exact Pick.nil | (apply Pick.cons; (focus ((repeat (first | exact Spl.here | apply Spl.there)); done))) | exact Pick.refl))) ⟨by dsimp only; omega, so⟩ ?_
    rintro ⟨k, r, A', c', sp⟩ ⟨hk, so⟩
    dsimp only at hk so
    dsimp only
    have hc := catLen_take L k
    by_cases hk' : k < L.length
    · have hc' := catLen_take L (k + 1)
      have hst : catLen (L.take (k + 1)) = catLen (L.take k) + L[k].xs.length := by rw [List.take_succ_eq_append_getElem hk', catLen_snoc]
      have hst2 : catAll (L.take (k + 1)) = catAll (L.take k) ++ L[k].xs := by rw [List.take_succ_eq_append_getElem hk', catAll_snoc]
      have sx := hs L[k] (List.getElem_mem _)
      have hset := s.cells k hk'
      generalize L[k] = x at *
      repeat' first
        | apply cw_seq
        | (refine cw_region_id 11 ?_; (apply ol_val; exact rfl; apply stp_cmp; apply s_lss; exact rfl; exact rfl; all_goals (intro hc28; try (exfalso; (first | exact hc28 rfl | omega)))); all_goals (apply ol_nil))
        | (refine cw_region_id 12 ?_; (apply ol_val; exact rfl; apply stp_pur; first | (apply s_indexK; exact rfl; exact rfl; exact el_82; exact sz_22; (first | exact rfl | exact s.at_ (by omega) | exact sx.at_ (by omega)); omega) | (apply s_indexO; exact rfl; exact rfl; exact el_82; exact sz_22; (first | exact rfl | exact s.at_ (by omega) | exact sx.at_ (by omega)); omega)); (apply ol_ld; exact rfl; exact rfl; exact rfl; (first | (apply RdN.own; (focus ((repeat constructor); done)); exact GetN.cons rfl GetN.nil) | (apply RdN.view; exact hset))); (apply ol_as; exact rfl; exact rfl); (apply ol_nil))
        | (refine cw_region_id 13 ?_; (apply ol_mv; exact rfl; exact rfl); (apply ol_mv; exact rfl; exact rfl); (apply ol_val; exact rfl; first | (apply s_append_e; exact rfl; exact rfl; (focus ((repeat constructor); done)); exact el_22; exact sz_5; exact zb_5; exact rfl; exact by_5; (first | exact (fun _ => rfl) | (intro _; exact s.at_ (by omega)) | (intro _; exact sx.at_ (by omega))); (first | (apply RdN.own; (focus ((repeat constructor); done)); (focus ((repeat (first | exact rfl | constructor)); done))) | (apply RdN.view; exact SlA.all (eK_length .u8) sx)); (first | exact rfl | exact ones_flat (eK_ones .u8) _); (first | omega | (simp; omega) | (simp; done)); (first | omega | (simp; omega) | (simp; done)); intro rk33 sk33 ck33 ok33) | (apply s_append_r; exact rfl; exact rfl; (focus ((repeat constructor); done)); (first | exact rfl | exact (List.append_nil _).symm); exact el_22; exact sz_5; exact zb_5; exact rfl; exact by_5; (first | exact SO.nil _ | assumption | (exact ⟨by simp, by simp, Nat.le_refl _, by simp⟩)); (first | exact (fun _ => rfl) | (intro _; exact s.at_ (by omega)) | (intro _; exact sx.at_ (by omega))); (first | (apply RdN.own; (focus ((repeat constructor); done)); (focus ((repeat (first | exact rfl | constructor)); done))) | (apply RdN.view; exact SlA.all (eK_length .u8) sx)); (first | exact rfl | exact ones_flat (eK_ones .u8) _); (first | omega | (simp; omega) | (simp; done)); (first | omega | (simp; omega) | (simp; done)); intro rk33 sk33 ck33 ok33) | (apply s_append_b; exact rfl; exact rfl; (focus ((repeat constructor); done)); (first | exact rfl | exact (List.append_nil _).symm); exact el_22; exact sz_5; exact zb_5; exact rfl; exact by_5; (first | exact SO.nil _ | assumption | (exact ⟨by simp, by simp, Nat.le_refl _, by simp⟩)); (first | exact (fun _ => rfl) | (intro _; exact s.at_ (by omega)) | (intro _; exact sx.at_ (by omega))); (first | (apply RdN.own; (focus ((repeat constructor); done)); (focus ((repeat (first | exact rfl | constructor)); done))) | (apply RdN.view; exact SlA.all (eK_length .u8) sx)); (first | exact rfl | exact ones_flat (eK_ones .u8) _); (first | omega | (simp; omega) | (simp; done)); (first | omega | (simp; omega) | (simp; done)); intro rk33 sk33 ck33 ok33) | (apply s_append_n; exact rfl; exact rfl; (focus ((repeat constructor); done)); exact el_22; exact sz_5; exact zb_5; exact rfl; exact by_5; (first | exact (fun _ => rfl) | (intro _; exact s.at_ (by omega)) | (intro _; exact sx.at_ (by omega))); (first | (apply RdN.own; (focus ((repeat constructor); done)); (focus ((repeat (first | exact rfl | constructor)); done))) | (apply RdN.view; exact SlA.all (eK_length .u8) sx)); (first | exact rfl | exact ones_flat (eK_ones .u8) _); (first | omega | (simp; omega) | (simp; done)); (first | omega | (simp; omega) | (simp; done)); intro rk33 sk33 ck33 ok33)); (apply ol_as; exact rfl; exact rfl); (apply ol_nil))
        | (refine cw_region_id 14 ?_; (apply ol_val; exact rfl; apply stp_pur; apply s_add64; exact rfl; exact rfl; omega); (apply ol_mv; exact rfl; exact rfl); (apply ol_nil))
        | (refine cw_region_id 15 ?_; (apply ol_mv; exact rfl; exact rfl); (apply ol_as; exact rfl; exact rfl); (apply ol_nil))
        | (apply cw_cond_true; exact rfl; (first | exact rfl | assumption))
        | (apply cw_cond_false; exact rfl; (first | exact rfl | assumption))
        | apply cw_skip
        | apply cw_ret
        | apply cw_block
        | apply cw_exit
      refine ⟨⟨k + 1, rk33, A', ck33, sk33⟩, ⟨?_, View.le.refl _, ?_, ⟨hk', ?_⟩, by dsimp only; omega⟩⟩
      · dsimp only; rw [hst]; (repeat (first | exact trivial | refine And.intro rfl ?_))
      · dsimp only; rw [hst2, flat_append]; (repeat (first | exact Pick.nil | (apply Pick.cons; (focus ((repeat (first | exact Spl.here | apply Spl.there)); done))) | exact Pick.refl))
      · dsimp only; rw [hst, hst2, flat_append]; exact ok33
    · have : k = L.length := by omega
      subst this
      rw [List.take_length] at so ⊢
      repeat' first
        | apply cw_seq
        | (refine cw_region_id 11 ?_; (apply ol_val; exact rfl; apply stp_cmp; apply s_lss; exact rfl; exact rfl; all_goals (intro hc28; try (exfalso; (first | exact hc28 rfl | omega)))); all_goals (apply ol_nil))
        | (refine cw_region_id 12 ?_; (apply ol_val; exact rfl; apply stp_pur; first | (apply s_indexK; exact rfl; exact rfl; exact el_82; exact sz_22; (first | exact rfl); omega) | (apply s_indexO; exact rfl; exact rfl; exact el_82; exact sz_22; (first | exact rfl); omega)); (apply ol_ld; exact rfl; exact rfl; exact rfl; (apply RdN.own; (focus ((repeat constructor); done)); exact GetN.cons rfl GetN.nil)); (apply ol_as; exact rfl; exact rfl); (apply ol_nil))
        | (refine cw_region_id 13 ?_; (apply ol_mv; exact rfl; exact rfl); (apply ol_mv; exact rfl; exact rfl); (apply ol_val; exact rfl; first | (apply s_append_e; exact rfl; exact rfl; (focus ((repeat constructor); done)); exact el_22; exact sz_5; exact zb_5; exact rfl; exact by_5; (first | exact (fun _ => rfl)); (first | (apply RdN.own; (focus ((repeat constructor); done)); (focus ((repeat (first | exact rfl | constructor)); done)))); (first | exact rfl); (first | omega | (simp; omega) | (simp; done)); (first | omega | (simp; omega) | (simp; done)); intro rk33 sk33 ck33 ok33) | (apply s_append_r; exact rfl; exact rfl; (focus ((repeat constructor); done)); (first | exact rfl | exact (List.append_nil _).symm); exact el_22; exact sz_5; exact zb_5; exact rfl; exact by_5; (first | exact SO.nil _ | assumption | (exact ⟨by simp, by simp, Nat.le_refl _, by simp⟩)); (first | exact (fun _ => rfl)); (first | (apply RdN.own; (focus ((repeat constructor); done)); (focus ((repeat (first | exact rfl | constructor)); done)))); (first | exact rfl); (first | omega | (simp; omega) | (simp; done)); (first | omega | (simp; omega) | (simp; done)); intro rk33 sk33 ck33 ok33) | (apply s_append_b; exact rfl; exact rfl; (focus ((repeat constructor); done)); (first | exact rfl | exact (List.append_nil _).symm); exact el_22; exact sz_5; exact zb_5; exact rfl; exact by_5; (first | exact SO.nil _ | assumption | (exact ⟨by simp, by simp, Nat.le_refl _, by simp⟩)); (first | exact (fun _ => rfl)); (first | (apply RdN.own; (focus ((repeat constructor); done)); (focus ((repeat (first | exact rfl | constructor)); done)))); (first | exact rfl); (first | omega | (simp; omega) | (simp; done)); (first | omega | (simp; omega) | (simp; done)); intro rk33 sk33 ck33 ok33) | (apply s_append_n; exact rfl; exact rfl; (focus ((repeat constructor); done)); exact el_22; exact sz_5; exact zb_5; exact rfl; exact by_5; (first | exact (fun _ => rfl)); (first | (apply RdN.own; (focus ((repeat constructor); done)); (focus ((repeat (first | exact rfl | constructor)); done)))); (first | exact rfl); (first | omega | (simp; omega) | (simp; done)); (first | omega | (simp; omega) | (simp; done)); intro rk33 sk33 ck33 ok33)); (apply ol_as; exact rfl; exact rfl); (apply ol_nil))
        | (refine cw_region_id 14 ?_; (apply ol_val; exact rfl; apply stp_pur; apply s_add64; exact rfl; exact rfl; omega); (apply ol_mv; exact rfl; exact rfl); (apply ol_nil))
        | (refine cw_region_id 15 ?_; (apply ol_mv; exact rfl; exact rfl); (apply ol_as; exact rfl; exact rfl); (apply ol_nil))
        | (apply cw_cond_true; exact rfl; (first | exact rfl | assumption))
        | (apply cw_cond_false; exact rfl; (first | exact rfl | assumption))
        | apply cw_skip
        | apply cw_ret
        | apply cw_block
        | apply cw_exit
      refine ends [⟨r, flat (eK .u8) (catAll L) ++ sp, 5⟩] (RVal.tmp rfl RVal.nil) (by (repeat (first | exact Pick.nil | (apply Pick.cons; (focus ((repeat (first | exact Spl.here | apply Spl.there)); done))) | exact Pick.refl))) ?_
      refine ⟨r, A', c', sp, ?_, rfl, ?_⟩
      · rw [catAll_length]; rfl
      · rw [catAll_length]; exact so


theorem equal_spec {M : View} {w : World} (hM : View.le M (View.of w)) {x y : List Int} {n n' c c' : Nat} (hn : x.length = n) (hn' : y.length = n') (hbx : isB x) (hby : isB y) {a a' : Option Addr} {b o b' o' : Nat} (s : SlA M (eK .u8) 1 a x b o) (s' : SlA M (eK .u8) 1 a' y b' o') :
    FnC Tryd.prog 18 [.slice a n c, .slice a' n' c'] w (fun v _ => v = .bool (decide (x = y))) := by
  refine enterF (M := M) Tryd.func18 rfl rfl rfl rfl hM ?_
  repeat' first
    | apply cw_seq
    | (refine cw_region_id 0 ?_; (apply ol_as; exact rfl; exact rfl); (apply ol_nil))
    | (refine cw_region_id 1 ?_; (apply ol_mv; exact rfl; exact rfl); (apply ol_val; exact rfl; apply stp_pur; apply s_convBS; exact rfl; exact el_22; exact tdInt_eq ti_5; exact us_9; (first | exact s.atn hn | exact s'.atn hn'); (first | exact hn | exact hn'); (first | exact s.rd hn | exact s'.rd hn')); (apply ol_mv; exact rfl; exact rfl); (apply ol_val; exact rfl; apply stp_pur; apply s_convBS; exact rfl; exact el_22; exact tdInt_eq ti_5; exact us_9; (first | exact s.atn hn | exact s'.atn hn'); (first | exact hn | exact hn'); (first | exact s.rd hn | exact s'.rd hn')); (apply ol_val; exact rfl; apply stp_pur; apply s_eqlStr; exact rfl; exact rfl); (apply ol_as; exact rfl; exact rfl); (apply ol_nil))
    | (apply cw_cond_true; exact rfl; (first | exact rfl | assumption))
    | (apply cw_cond_false; exact rfl; (first | exact rfl | assumption))
    | apply cw_skip
    | apply cw_ret
    | apply cw_block
    | apply cw_exit
  refine ends [] (RVal.tmp rfl RVal.nil) Pick.nil ?_
  show Value.bool _ = _
  rw [toList_beq, intsB_strOf hbx.mem, intsB_strOf hby.mem]
end Go.Proofs.YthhhleplbmpakaaDoor
