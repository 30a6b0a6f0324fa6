/-
  Some texts joined.
-/
import Derived.Test.YtjaeblkgjbncmaaDoorTy
import Derived.Test.YtjaeblkgjbncmaaDoorFw28
import Derived.Test.YtjaeblkgjbncmaaDoorWA
import Derived.Test.YtjaeblkgjbncmaaDoorWB
/-
  Facts on pointers' types.
-/
namespace Go.Proofs.YtjaeblkgjbncmaaDoor
set_option maxRecDepth 20000
set_option linter.unusedSimpArgs false
set_option linter.unusedVariables false
open Go Go.Fw
theorem pu_58 : Tryd.prog.underlying 58 = some (.pointer 60) := by kernel_rfl
theorem pu_80 : Tryd.prog.underlying 80 = some (.pointer 5) := by kernel_rfl
theorem uu_92 : Tryd.prog.underlying 92 = some .unsafePointer := by kernel_rfl
theorem ce_5 : Tryd.prog.cellsOf 5 = 1 := by kernel_rfl
theorem li_60 : liesAt Tryd.prog Tryd.prog.depth 60 (2 / Tryd.prog.cellsOf 60) 0 60 1 = true := by kernel_rfl
theorem en_57 : (Tryd.f57.name == "runtime.NumGoroutine") = false := by kernel_rfl
theorem eb_57 : Tryd.f57.body.isNone = true := by kernel_rfl
theorem ex_57 : Extern.findNext Tryd.f57 = none := by kernel_rfl
theorem ef_57 : Extern.find Tryd.f57 = some Extern.AbiNoEscape.same := by kernel_rfl
end Go.Proofs.YtjaeblkgjbncmaaDoor

/-
  strings.Builder, where it is called.
-/
namespace Go.Proofs.YtjaeblkgjbncmaaDoor
set_option maxRecDepth 20000
set_option linter.unusedSimpArgs false
set_option linter.unusedVariables false
open Go Go.Fw
attribute [local irreducible] CW OL OD FX Stp FnC Ret strOf
set_option maxHeartbeats 800000

theorem copyCheck_step {ts : Array TypeId} {n : Nat} {wE : World} {mu : List Nat} {fm : FM} {M : View} {rest : List OB} {K : Value → View → List OB → Prop} {d : Option Nat} {ty : TypeId} {pos : String} {af : Array Edge} {g : Option (Nat × Bool)} {x : Operand} {b : Nat} {o : Option Addr} {v : Value}
    (hx : ev fm x = some (.pointer (some ⟨b, 0, none⟩))) (ho : o = none ∨ o = some ⟨b, 0, none⟩) (hk : K (.tuple #[]) M (⟨some b, [.pointer (some ⟨b, 0, none⟩), v], 60⟩ :: rest)) :
    Stp ⟨Tryd.prog, n, wE, mu⟩ ⟨d, .call { callee := .value (.func 46), args := #[x], argTypes := ts }, ty, pos, af, g⟩ fm M (⟨some b, [.pointer o, v], 60⟩ :: rest) K := by
  refine s_inline (xs := [x]) (vs := [.pointer (some ⟨b, 0, none⟩)]) (by simp [evs, hx]) (by kernel_rfl) Tryd.func46 rfl rfl rfl rfl ?_
  rcases ho with rfl | rfl
  ·
    repeat' first
      | apply cw_seq
      | (refine cw_region_id 0 ?_; (apply ol_mv; exact rfl; exact rfl); (apply ol_val; exact rfl; apply stp_pur; apply s_nilCheck; exact rfl); (apply ol_fa; exact rfl; exact rfl; exact fd_60_0; (first | exact Nat.zero_add _ | exact Nat.add_zero _ | exact rfl)); (apply ol_ld; exact rfl; exact rfl; exact rfl; (apply RdN.own; (focus ((repeat constructor); done)); exact GetN.cons rfl GetN.nil)); (apply ol_val; exact rfl; apply stp_pur; first | (apply s_eqlPn; exact rfl; exact pu_58) | (apply s_eqlPs; exact rfl; exact pu_58)); (apply ol_nil))
      | (refine cw_region_id 1 ?_; (apply ol_mv; exact rfl; exact rfl); (apply ol_mv; exact rfl; exact rfl); (apply ol_val; exact rfl; apply stp_pur; apply s_toUns; exact rfl; exact pu_58; exact uu_92; exact sz_60; exact rfl; (focus ((repeat constructor); done)); exact rfl); (apply ol_val; exact rfl; apply s_extern; exact rfl; exact Tryd.func57; exact en_57; exact eb_57; exact ex_57; exact ef_57; (intro w; exact Lib.run_noEscape w _)); all_goals (apply ol_val; exact rfl; apply stp_pur; apply s_fromUns; exact rfl; exact uu_92; exact pu_58; exact sz_60; (focus ((repeat constructor); done)); exact li_60); all_goals (apply ol_val; exact rfl; apply stp_pur; apply s_nilCheck; exact rfl); all_goals (apply ol_fa; exact rfl; exact rfl; exact fd_60_0; (first | exact Nat.zero_add _ | exact Nat.add_zero _ | exact rfl)); all_goals (apply ol_eff; apply s_store1; exact rfl; exact rfl; exact sz_58; exact rfl; (focus ((repeat constructor); done)); (first | (focus ((repeat constructor); done)) | (apply setAt_ints_app; (first | omega | (simp; omega) | (simp; done))) | (apply setAt_ints; (first | omega | (simp; omega) | (simp; done))) | (apply SetAt.set; (first | omega | (simp; omega) | (simp; done))))); all_goals (apply ol_nil))
      | (refine cw_region_id 2 ?_; (apply ol_mv; exact rfl; exact rfl); (apply ol_val; exact rfl; apply stp_pur; apply s_nilCheck; exact rfl); (apply ol_fa; exact rfl; exact rfl; exact fd_60_0; (first | exact Nat.zero_add _ | exact Nat.add_zero _ | exact rfl)); (apply ol_ld; exact rfl; exact rfl; exact rfl; (apply RdN.own; (focus ((repeat constructor); done)); exact GetN.cons rfl GetN.nil)); (apply ol_mv; exact rfl; exact rfl); (apply ol_val; exact rfl; apply stp_pur; apply s_neqPP; exact rfl; exact rfl; exact pu_58; exact sz_60); (apply ol_nil))
      | (apply cw_cond_true; exact rfl; (first | exact rfl | assumption))
      | (apply cw_cond_false; exact rfl; (first | exact rfl | assumption))
      | apply cw_skip
      | apply cw_ret
      | apply cw_block
      | apply cw_exit
    exact endI RVal.nil (by (repeat (first | exact Pick.nil | (apply Pick.cons; (focus ((repeat (first | exact Spl.here | apply Spl.there)); done))) | exact Pick.refl))) hk
  ·
    repeat' first
      | apply cw_seq
      | (refine cw_region_id 0 ?_; (apply ol_mv; exact rfl; exact rfl); (apply ol_val; exact rfl; apply stp_pur; apply s_nilCheck; exact rfl); (apply ol_fa; exact rfl; exact rfl; exact fd_60_0; (first | exact Nat.zero_add _ | exact Nat.add_zero _ | exact rfl)); (apply ol_ld; exact rfl; exact rfl; exact rfl; (apply RdN.own; (focus ((repeat constructor); done)); exact GetN.cons rfl GetN.nil)); (apply ol_val; exact rfl; apply stp_pur; first | (apply s_eqlPn; exact rfl; exact pu_58) | (apply s_eqlPs; exact rfl; exact pu_58)); (apply ol_nil))
      | (refine cw_region_id 1 ?_; (apply ol_mv; exact rfl; exact rfl); (apply ol_mv; exact rfl; exact rfl); (apply ol_val; exact rfl; apply stp_pur; apply s_toUns; exact rfl; exact pu_58; exact uu_92; exact sz_60; exact rfl; (focus ((repeat constructor); done)); exact rfl))
      | (refine cw_region_id 2 ?_; (apply ol_mv; exact rfl; exact rfl); (apply ol_val; exact rfl; apply stp_pur; apply s_nilCheck; exact rfl); (apply ol_fa; exact rfl; exact rfl; exact fd_60_0; (first | exact Nat.zero_add _ | exact Nat.add_zero _ | exact rfl)); (apply ol_ld; exact rfl; exact rfl; exact rfl; (apply RdN.own; (focus ((repeat constructor); done)); exact GetN.cons rfl GetN.nil)); (apply ol_mv; exact rfl; exact rfl); (apply ol_val; exact rfl; apply stp_pur; apply s_neqPP; exact rfl; exact rfl; exact pu_58; exact sz_60); (apply ol_nil))
      | (apply cw_cond_true; exact rfl; (first | exact rfl | assumption))
      | (apply cw_cond_false; exact rfl; (first | exact rfl | assumption))
      | apply cw_skip
      | apply cw_ret
      | apply cw_block
      | apply cw_exit
    exact endI RVal.nil (by (repeat (first | exact Pick.nil | (apply Pick.cons; (focus ((repeat (first | exact Spl.here | apply Spl.there)); done))) | exact Pick.refl))) hk

theorem writeString_step {ts : Array TypeId} {n : Nat} {wE : World} {mu : List Nat} {fm : FM} {M : View} {rest : List OB} {K : Value → View → List OB → Prop} {d : Option Nat} {ty : TypeId} {pos : String} {af : Array Edge} {g : Option (Nat × Bool)} {x y : Operand} {b : Nat} {o : Option Addr} {r : Option Nat} {cap : Nat} {xs ys : List Int} {sp : List Value} {m : Nat}
    (hx : ev fm x = some (.pointer (some ⟨b, 0, none⟩))) (hy : ev fm y = some (.string (strOf ys))) (hyb : ∀ x ∈ ys, 0 ≤ x ∧ x ≤ 255) (ho : o = none ∨ o = some ⟨b, 0, none⟩) (so : SO r m cap (flat (eK .u8) xs) sp 1) (hl : m ≤ 1073741824) (hyl : ys.length ≤ 1073741824)
    (hk : ∀ r' sp' cap', SO r' (m + ys.length) cap' (flat (eK .u8) (xs ++ ys)) sp' 1 → K (.tuple #[.int .i64 ys.length, .nilIface]) M (⟨some b, [.pointer (some ⟨b, 0, none⟩), .slice (base r' none) (m + ys.length) cap'], 60⟩ :: ⟨r', flat (eK .u8) (xs ++ ys) ++ sp', 5⟩ :: rest)) :
    Stp ⟨Tryd.prog, n, wE, mu⟩ ⟨d, .call { callee := .value (.func 32), args := #[x, y], argTypes := ts }, ty, pos, af, g⟩ fm M (⟨some b, [.pointer o, .slice (base r none) m cap], 60⟩ :: ⟨r, flat (eK .u8) xs ++ sp, 5⟩ :: rest) K := by
  refine s_inline (xs := [x, y]) (vs := [.pointer (some ⟨b, 0, none⟩), .string (strOf ys)]) (by simp [evs, hx, hy]) (by kernel_rfl) Tryd.func32 rfl rfl rfl rfl ?_
  have e : flat (eK .u8) (xs ++ ys) = flat (eK .u8) xs ++ flat (eK .u8) ys := flat_append _ _ _
  rw [e] at hk
  rw [← strOf_size ys] at hk
  have hsz := strOf_size ys
  rw [hsz] at hk
  repeat' first
    | apply cw_seq
    | (refine cw_region_id 0 ?_; (apply ol_as; exact rfl; exact rfl); (apply ol_as; exact rfl; exact rfl); (apply ol_nil))
    | (refine cw_region_id 1 ?_; (apply ol_mv; exact rfl; exact rfl); (apply ol_val; exact rfl; apply copyCheck_step; exact rfl; exact ho); all_goals (apply ol_nil))
    | (refine cw_region_id 2 ?_; (apply ol_mv; exact rfl; exact rfl); (apply ol_mv; exact rfl; exact rfl); (apply ol_val; exact rfl; apply stp_pur; apply s_nilCheck; exact rfl); (apply ol_fa; exact rfl; exact rfl; exact fd_60_1; (first | exact Nat.zero_add _ | exact Nat.add_zero _ | exact rfl)); (apply ol_ld; exact rfl; exact rfl; exact rfl; (apply RdN.own; (focus ((repeat constructor); done)); exact GetN.cons rfl GetN.nil)); (apply ol_mv; exact rfl; exact rfl); (apply ol_val; exact rfl; apply s_append_s; exact rfl; exact rfl; assumption; (focus ((repeat constructor); done)); (first | exact rfl | exact (List.append_nil _).symm); exact el_33; exact us_9; exact sz_5; exact zb_5; exact rfl; exact by_5; (first | exact SO.nil _ | assumption | (exact ⟨by simp, by simp, Nat.le_refl _, by simp⟩)); (first | omega | (simp; omega) | (simp; done)); (first | omega | (simp; omega) | (simp; done)); intro rk14 sk14 ck14 ok14); (apply ol_val; exact rfl; apply stp_pur; apply s_nilCheck; exact rfl); (apply ol_fa; exact rfl; exact rfl; exact fd_60_1; (first | exact Nat.zero_add _ | exact Nat.add_zero _ | exact rfl)); (apply ol_eff; apply s_store1; exact rfl; exact rfl; exact sz_33; exact rfl; (focus ((repeat constructor); done)); (first | (focus ((repeat constructor); done)) | (apply setAt_ints_app; (first | omega | (simp; omega) | (simp; done))) | (apply setAt_ints; (first | omega | (simp; omega) | (simp; done))) | (apply SetAt.set; (first | omega | (simp; omega) | (simp; done))))); (apply ol_nil))
    | (refine cw_region_id 3 ?_; (apply ol_mv; exact rfl; exact rfl); (apply ol_val; exact rfl; apply stp_pur; apply s_len_string; exact rfl; exact rfl; exact rfl); (apply ol_as; exact rfl; exact rfl); (apply ol_as; exact rfl; exact rfl); (apply ol_nil))
    | (apply cw_cond_true; exact rfl; (first | exact rfl | assumption))
    | (apply cw_cond_false; exact rfl; (first | exact rfl | assumption))
    | apply cw_skip
    | apply cw_ret
    | apply cw_block
    | apply cw_exit
  rw [hsz]
  exact endIS (RVal.tmp rfl (RVal.tmp rfl RVal.nil)) (List.Sublist.refl _) (hk rk14 sk14 ck14 ok14)

theorem string_step {ts : Array TypeId} {n : Nat} {wE : World} {mu : List Nat} {fm : FM} {M : View} {rest : List OB} {K : Value → View → List OB → Prop} {d : Option Nat} {ty : TypeId} {pos : String} {af : Array Edge} {g : Option (Nat × Bool)} {x : Operand} {b q : Nat} {pa : Value} {cap : Nat} {xs : List Int} {sp : List Value}
    (hx : ev fm x = some (.pointer (some ⟨b, 0, none⟩))) (h0 : 0 < xs.length) (hc : xs.length ≤ cap) (hl : xs.length ≤ 1073741824) (hb : ∀ x ∈ xs, 0 ≤ x ∧ x ≤ 255)
    (hk : K (.string (strOf xs)) M (⟨some b, [pa, .slice (some ⟨q, 0, none⟩) xs.length cap], 60⟩ :: rest)) :
    Stp ⟨Tryd.prog, n, wE, mu⟩ ⟨d, .call { callee := .value (.func 33), args := #[x], argTypes := ts }, ty, pos, af, g⟩ fm M (⟨some b, [pa, .slice (some ⟨q, 0, none⟩) xs.length cap], 60⟩ :: ⟨some q, flat (eK .u8) xs ++ sp, 5⟩ :: rest) K := by
  refine s_inline (xs := [x]) (vs := [.pointer (some ⟨b, 0, none⟩)]) (by simp [evs, hx]) (by kernel_rfl) Tryd.func33 rfl rfl rfl rfl ?_
  repeat' first
    | apply cw_seq
    | (refine cw_region_id 0 ?_; (apply ol_as; exact rfl; exact rfl); (apply ol_nil))
    | (refine cw_draw (id := 1) 10 (.mv 0 (.mv 1 (.mv 2 (.mv 3 (.mv 5 (.mv 6 (.mv 7 (.mv 8 (.mv 9 (.fx 4 (PT.nil))))))))))) mixed (by kernel_rfl) ?_; (apply od_mv; exact rfl; exact rfl; apply s_move; exact rfl); (apply od_mv; exact rfl; exact rfl; apply s_nilCheck; exact rfl); (apply od_mv; exact rfl; exact rfl; apply s_fieldAddr'; exact rfl; exact fd_60_1; (first | exact Nat.zero_add _ | exact Nat.add_zero _ | exact rfl)); (apply od_mv; exact rfl; exact rfl; apply s_load1; exact rfl; exact rfl; (apply RdN.own; (focus ((repeat constructor); done)); exact GetN.cons rfl GetN.nil)); (apply od_mv; exact rfl; exact rfl; apply s_move; exact rfl); (apply od_mv; exact rfl; exact rfl; apply s_nilCheck; exact rfl); (apply od_mv; exact rfl; exact rfl; apply s_fieldAddr'; exact rfl; exact fd_60_1; (first | exact Nat.zero_add _ | exact Nat.add_zero _ | exact rfl)); (apply od_mv; exact rfl; exact rfl; apply s_load1; exact rfl; exact rfl; (apply RdN.own; (focus ((repeat constructor); done)); exact GetN.cons rfl GetN.nil)); (apply od_mv; exact rfl; exact rfl; apply s_len; exact rfl; exact el_33); (apply od_fx; (first | exact Wk.refl _ _ | (focus (apply Wk.mk; (first | exact View.le.refl _ | assumption | exact View.le.trans (by assumption) (by assumption)); (repeat constructor); done))); (apply fx_val; exact rfl; exact rfl; apply stp_pur; apply s_sliceData; exact rfl; omega)); (apply od_nil; (first | exact Wk.refl _ _ | (focus (apply Wk.mk; (first | exact View.le.refl _ | assumption | exact View.le.trans (by assumption) (by assumption)); (repeat constructor); done)))); (apply ol_val; exact rfl; apply s_unsafeString; exact rfl; exact rfl; (focus ((repeat constructor); done)); exact pu_80; exact ce_5; omega; omega; (first | assumption | exact hb)); (apply ol_as; exact rfl; exact rfl); (apply ol_nil))
    | (apply cw_cond_true; exact rfl; (first | exact rfl | assumption))
    | (apply cw_cond_false; exact rfl; (first | exact rfl | assumption))
    | apply cw_skip
    | apply cw_ret
    | apply cw_block
    | apply cw_exit
  exact endI (RVal.tmp rfl RVal.nil) Pick.refl hk
end Go.Proofs.YtjaeblkgjbncmaaDoor

/-
  Texts of numbers in chunks.
-/
namespace Go.Proofs.YtjaeblkgjbncmaaDoor
set_option maxRecDepth 20000
set_option linter.unusedSimpArgs false
set_option linter.unusedVariables false
theorem nd_add {b A m r : Nat} (hb : 2 ≤ b) (hA : 0 < A) (hr : r < b ^ m) : nd b (b ^ m * A + r) = m + nd b A := by
  have hp : 0 < b ^ m := Nat.pow_pos (by omega)
  have hd : (b ^ m * A + r) / b ^ m = A := by rw [Nat.mul_add_div hp, Nat.div_eq_of_lt hr, Nat.add_zero]
  have hnd : 0 < nd b A := by
    rcases Nat.eq_zero_or_pos (nd b A) with h | h
    · rw [nd_zero_iff hb] at h; omega
    · exact h
  refine nd_eq hb ?_ fun _ => ?_
  · rw [Nat.pow_add]
    have h1 := nd_lt hb A
    have h2 : b ^ m * (A + 1) ≤ b ^ m * b ^ nd b A := Nat.mul_le_mul_left _ h1
    rw [Nat.mul_add, Nat.mul_one] at h2
    omega
  · rw [show m + nd b A - 1 = m + (nd b A - 1) by omega, Nat.pow_add, ← Nat.div_div_eq_div_mul, hd]
    exact nd_top hb hA
theorem dg_add {b A m r : Nat} (hb : 2 ≤ b) (hA : 0 < A) (hr : r < b ^ m) : dg b (b ^ m * A + r) = lw b m r ++ dg b A := by
  have hp : 0 < b ^ m := Nat.pow_pos (by omega)
  unfold dg
  rw [nd_add hb hA hr, lw_add, Nat.mul_add_div hp, Nat.div_eq_of_lt hr, Nat.add_zero, ← lw_mod (b := b) (j := m) (b ^ m * A + r) (Nat.le_refl _), Nat.mul_add_mod, Nat.mod_eq_of_lt hr]
/-- So many digits, the highest first. -/
def fixT (b m r : Nat) : List Int := (lw b m r).reverse.map chr
theorem fixT_length (b m r : Nat) : (fixT b m r).length = m := by unfold fixT; rw [List.length_map, List.length_reverse, lw_length]
theorem txt_pos {b n : Nat} (h : 0 < n) : txt b n = (dg b n).reverse.map chr := by unfold txt; rw [if_neg (by omega)]
theorem txt_add {b A m r : Nat} (hb : 2 ≤ b) (hA : 0 < A) (hr : r < b ^ m) : txt b (b ^ m * A + r) = txt b A ++ fixT b m r := by
  have hp : 0 < b ^ m := Nat.pow_pos (by omega)
  have h : 0 < b ^ m * A := Nat.mul_pos hp hA
  rw [txt_pos (by omega), txt_pos hA, dg_add hb hA hr, List.reverse_append, List.map_append]
  rfl
theorem lw_zeros (b k : Nat) : lw b k 0 = List.replicate k 0 := by
  induction k with
  | zero => rfl
  | succ k ih => rw [lw_succ, ih, List.replicate_succ']; simp
theorem pad_txt {b m r : Nat} (hb : 2 ≤ b) (hm : 1 ≤ m) (hr : r < b ^ m) : (txt b r).length ≤ m ∧ List.replicate (m - (txt b r).length) 48 ++ txt b r = fixT b m r := by
  rcases Nat.eq_zero_or_pos r with h | h
  · subst h
    unfold txt fixT
    rw [if_pos rfl, lw_zeros, List.reverse_replicate, List.map_replicate]
    refine ⟨hm, ?_⟩
    obtain ⟨j, rfl⟩ : ∃ j, m = j + 1 := ⟨m - 1, by omega⟩
    rw [List.replicate_succ']
    rfl
  · have hl := nd_le hb hr
    rw [txt_pos h]
    have e : ((dg b r).reverse.map chr).length = nd b r := by rw [List.length_map, List.length_reverse, lw_length]
    rw [e]
    refine ⟨hl, ?_⟩
    obtain ⟨j, rfl⟩ : ∃ j, m = nd b r + j := ⟨m - nd b r, by omega⟩
    unfold fixT
    rw [lw_add, Nat.div_eq_of_lt (nd_lt hb r), lw_zeros, List.reverse_append, List.map_append, List.reverse_replicate, List.map_replicate, Nat.add_sub_cancel_left]
    rfl
theorem txt_b {b : Nat} (hb : 2 ≤ b) (hb2 : b ≤ 16) (n : Nat) : ∀ x ∈ txt b n, 0 ≤ x ∧ x ≤ 255 := by
  intro x hx
  unfold txt at hx
  split at hx
  · obtain rfl : x = 48 := by simpa using hx
    omega
  · obtain ⟨d, hd, rfl⟩ := List.mem_map.1 hx
    have := lw_lt (by omega) _ _ d (List.mem_reverse.1 hd)
    have := chr_b (d := d) (by omega)
    omega
theorem fixT_b {b : Nat} (hb : 2 ≤ b) (hb2 : b ≤ 16) (m n : Nat) : ∀ x ∈ fixT b m n, 0 ≤ x ∧ x ≤ 255 := by
  intro x hx
  obtain ⟨d, hd, rfl⟩ := List.mem_map.1 hx
  have := lw_lt (by omega) _ _ d (List.mem_reverse.1 hd)
  have := chr_b (d := d) (by omega)
  omega
theorem txt_len_pos (b n : Nat) (hb : 2 ≤ b) : 0 < (txt b n).length := by
  unfold txt
  split
  · simp
  · rename_i h
    rw [List.length_map, List.length_reverse, lw_length]
    rcases Nat.eq_zero_or_pos (nd b n) with h2 | h2
    · exact absurd ((nd_zero_iff hb).1 h2) h
    · exact h2
theorem txt_len_le {b n k : Nat} (hb : 2 ≤ b) (hk : 1 ≤ k) (h : n < b ^ k) : (txt b n).length ≤ k := (pad_txt hb hk h).1
end Go.Proofs.YtjaeblkgjbncmaaDoor

/-
  natform.Hex.
-/
namespace Go.Proofs.YtjaeblkgjbncmaaDoor
set_option maxRecDepth 20000
set_option linter.unusedSimpArgs false
set_option linter.unusedVariables false
open Go Go.Fw
/-- What Text and Hex say. -/
def txP (b k N : Nat) : List Int := if vd k N then txt b N else []
/-- What is written when j words are left. -/
def upT (k N j : Nat) : List Int := if j = k then [] else txt 16 (N / W ^ j)
theorem W_16 : W = 16 ^ 8 := by decide
theorem div_pow_pos {k N j : Nat} (h : nd W N = k) (hj : j < k) : 0 < N / W ^ j := by
  refine Nat.div_pos ?_ (Nat.pow_pos W_pos)
  refine Nat.not_lt.1 fun h2 => ?_
  have := nd_le (b := W) (by decide) h2
  omega
theorem upT_first {k N : Nat} (h : nd W N = k) (h0 : 0 < k) : upT k N (k - 1) = upT k N k ++ txt 16 (N / W ^ (k - 1) % W) := by
  unfold upT
  rw [if_pos rfl, if_neg (by omega), List.nil_append]
  have hN := nd_lt (b := W) (by decide) N
  rw [h] at hN
  rw [Nat.mod_eq_of_lt]
  refine (Nat.div_lt_iff_lt_mul (Nat.pow_pos W_pos)).2 ?_
  rw [← Nat.pow_succ']
  rwa [show (k - 1).succ = k by omega]
theorem upT_next {k N j : Nat} (h : nd W N = k) (hj : j + 1 < k) : upT k N j = upT k N (j + 1) ++ fixT 16 8 (N / W ^ j % W) := by
  unfold upT
  rw [if_neg (by omega), if_neg (by omega)]
  have h1 := div_pow_pos h hj
  have h2 : N / W ^ j % W < 16 ^ 8 := by rw [← W_16]; exact Nat.mod_lt _ W_pos
  rw [← txt_add (by decide) h1 h2, ← W_16, Nat.pow_succ, ← Nat.div_div_eq_div_mul, Nat.div_add_mod]
theorem upT_zero {k N : Nat} (h0 : 0 < k) : upT k N 0 = txt 16 N := by unfold upT; rw [if_neg (by omega), Nat.pow_zero, Nat.div_one]
theorem upT_top (k N : Nat) : upT k N k = [] := by unfold upT; rw [if_pos rfl]
theorem upT_b (k N j : Nat) : ∀ x ∈ upT k N j, 0 ≤ x ∧ x ≤ 255 := by
  intro x hx
  unfold upT at hx
  split at hx
  · cases hx
  · exact txt_b (by decide) (by decide) _ x hx
theorem upT_len {k N j m : Nat} (h : N < W ^ k) (hm : 1 ≤ m) (hk : 8 * k ≤ m) : (upT k N j).length ≤ m := by
  unfold upT
  split
  · simp
  · refine txt_len_le (by decide) hm ?_
    refine Nat.lt_of_le_of_lt (Nat.div_le_self _ _) (Nat.lt_of_lt_of_le h ?_)
    rw [W_16, ← Nat.pow_mul]
    exact Nat.pow_le_pow_right (by decide) hk
theorem str0 : (⟨#[48]⟩ : ByteArray) = strOf [48] := by decide
theorem strE : (⟨#[]⟩ : ByteArray) = strOf [] := by decide
/-- "0", so many times. -/
theorem rep0_spec (w : World) {m L : Nat} (hL : L ≤ m) (hm : m ≤ 100) : FnC Tryd.prog 29 [.string (⟨#[48]⟩ : ByteArray), .int .i64 ((m : Int) - (L : Int))] w (fun v _ => v = .string (strOf (List.replicate (m - L) 48))) := by
  have := repeat_spec w (xs := [48]) (c := m - L) (by simp; omega) (by omega)
  rw [str0, show (m : Int) - (L : Int) = ((m - L : Nat) : Int) by omega]
  rwa [List.flatten_replicate_singleton] at this
structure HSt where
  j : Nat
  o : Option Addr
  r : Option Nat
  c : Nat
  sp : List Value
end Go.Proofs.YtjaeblkgjbncmaaDoor
namespace Go.Proofs.YtjaeblkgjbncmaaDoor
set_option maxRecDepth 20000
set_option linter.unusedSimpArgs false
set_option linter.unusedVariables false
open Go Go.Fw
attribute [local irreducible] CW OL OD FX Stp FnC FnV Ret wI vd strOf upT txt fixT
set_option maxHeartbeats 800000
theorem hex_spec {M : View} {w : World} (hM : View.le M (View.of w)) (hL : LT M) {a : Option Addr} {b o c k N : Nat} (hN : N < W ^ k) (hk : k ≤ 1000) (s : SlA M (eK .u32) 1 a (wI k N) b o) :
    FnC Tryd.prog 13 [.agg [.slice a k c].toArray] w (fun v _ => v = .string (strOf (txP 16 k N))) := by
  refine enterF (M := M) Tryd.func13 rfl rfl rfl rfl hM ?_
  unfold txP
  have kv := fun (w' : World) (h : View.le M (View.of w')) => valid_spec h (c := c) hN (by omega) s
  by_cases hv : vd k N = true
  · rw [if_pos hv]
    rw [hv] at kv
    have hk2 : k ≤ 64 ∧ nd W N = k := by unfold vd at hv; simpa using hv
    by_cases h0 : k = 0
    · have hz : N = 0 := (nd_zero_iff (by decide)).1 (hk2.2.trans h0)
      have ht : strOf (txt 16 N) = (⟨#[48]⟩ : ByteArray) := by rw [hz, str0]; unfold txt; rfl
      rw [ht]
      repeat' first
        | apply cw_seq
        | (refine cw_region_id 0 ?_; (apply ol_val; exact rfl; first | (apply s_boxN; exact rfl; intro bk1) | (apply s_box1; exact rfl; exact rfl; intro bk1)); (apply ol_as; exact rfl; exact rfl); (apply ol_nil))
        | (refine cw_region_id 1 ?_; (apply ol_ldN; exact rfl; exact rfl; exact rfl; exact sz_25; (apply RdN.own; (focus ((repeat constructor); done)); (focus ((repeat (first | exact rfl | constructor)); done)))); (apply ol_val; exact rfl; apply s_callv; exact rfl; exact gf_25; (intro w' hw'; exact kv w' hw'.le)); (apply ol_val; exact rfl; apply stp_pur; first | (apply s_not_t; exact rfl; (first | exact rfl | assumption)) | (apply s_not_f; exact rfl; (first | exact rfl | assumption)) | (apply s_not; exact rfl)); (apply ol_nil))
        | (refine cw_region_id 3 ?_; (apply ol_fa; exact rfl; exact rfl; exact fd_25_0; (first | exact Nat.zero_add _ | exact Nat.add_zero _ | exact rfl)); (apply ol_ld; exact rfl; exact rfl; exact rfl; (apply RdN.own; (focus ((repeat constructor); done)); exact GetN.cons rfl GetN.nil)); (apply ol_val; exact rfl; apply stp_pur; apply s_len; exact rfl; exact el_23); (apply ol_val; exact rfl; apply stp_cmp; apply s_eql; exact rfl; exact rfl; all_goals (intro hc12; try (exfalso; (first | exact hc12 rfl | omega)))); all_goals (apply ol_nil))
        | (refine cw_region_id 4 ?_; (apply ol_as; exact rfl; exact rfl); (apply ol_nil))
        | (apply cw_cond_true; exact rfl; (first | exact rfl | assumption))
        | (apply cw_cond_false; exact rfl; (first | exact rfl | assumption))
        | apply cw_skip
        | apply cw_ret
        | apply cw_block
        | apply cw_exit
      refine ends [] (RVal.tmp rfl RVal.nil) Pick.nil ?_
      rfl
    · refine cw_none 5 ?_
      repeat' first
        | apply cw_seq
        | (refine cw_region_id 0 ?_; (apply ol_val; exact rfl; first | (apply s_boxN; exact rfl; intro bk1) | (apply s_box1; exact rfl; exact rfl; intro bk1)); (apply ol_as; exact rfl; exact rfl); (apply ol_nil))
        | (refine cw_region_id 1 ?_; (apply ol_ldN; exact rfl; exact rfl; exact rfl; exact sz_25; (apply RdN.own; (focus ((repeat constructor); done)); (focus ((repeat (first | exact rfl | constructor)); done)))); (apply ol_val; exact rfl; apply s_callv; exact rfl; exact gf_25; (intro w' hw'; exact kv w' hw'.le)); (apply ol_val; exact rfl; apply stp_pur; first | (apply s_not_t; exact rfl; (first | exact rfl | assumption)) | (apply s_not_f; exact rfl; (first | exact rfl | assumption)) | (apply s_not; exact rfl)); (apply ol_nil))
        | (refine cw_region_id 3 ?_; (apply ol_fa; exact rfl; exact rfl; exact fd_25_0; (first | exact Nat.zero_add _ | exact Nat.add_zero _ | exact rfl)); (apply ol_ld; exact rfl; exact rfl; exact rfl; (apply RdN.own; (focus ((repeat constructor); done)); exact GetN.cons rfl GetN.nil)); (apply ol_val; exact rfl; apply stp_pur; apply s_len; exact rfl; exact el_23); (apply ol_val; exact rfl; apply stp_cmp; apply s_eql; exact rfl; exact rfl; all_goals (intro hc12; try (exfalso; (first | exact hc12 rfl | omega)))); all_goals (apply ol_nil))
        | (refine cw_region_id 5 ?_; (apply ol_val; exact rfl; apply s_alloc; exact zb_60; (focus ((repeat constructor); done)); intro bk3); (apply ol_nil))
        | (refine cw_region_id 6 ?_; (apply ol_fa; exact rfl; exact rfl; exact fd_25_0; (first | exact Nat.zero_add _ | exact Nat.add_zero _ | exact rfl)); (apply ol_ld; exact rfl; exact rfl; exact rfl; (apply RdN.own; (focus ((repeat constructor); done)); exact GetN.cons rfl GetN.nil)); (apply ol_val; exact rfl; apply stp_pur; apply s_len; exact rfl; exact el_23); (apply ol_val; exact rfl; apply stp_pur; apply s_sub64; exact rfl; exact rfl; omega); (apply ol_as; exact rfl; exact rfl); (apply ol_nil))
        | (apply cw_cond_true; exact rfl; (first | exact rfl | assumption))
        | (apply cw_cond_false; exact rfl; (first | exact rfl | assumption))
        | apply cw_skip
        | apply cw_ret
        | apply cw_block
        | apply cw_exit
      refine cw_loopK (σ := HSt) [1, 3] (by (repeat (first | exact Keep.nil | (apply Keep.cons; exact rfl)))) (fun s => [(4, .int .i64 ((s.j : Int) - 1))]) (fun _ => M) (fun s => [⟨some bk3, [.pointer s.o, .slice (base s.r none) (upT k N s.j).length s.c], 60⟩, ⟨s.r, flat (eK .u8) (upT k N s.j) ++ s.sp, 5⟩, ⟨some bk1, [.slice a k c], 25⟩]) (fun s => s.j ≤ k ∧ (s.o = none ∨ s.o = some ⟨bk3, 0, none⟩) ∧ SO s.r (upT k N s.j).length s.c (flat (eK .u8) (upT k N s.j)) s.sp 1) (fun s => s.j) ⟨k, none, none, 0, []⟩ (by (repeat (first | exact trivial | refine And.intro rfl ?_))) (View.le.refl _) (by dsimp only; rw [upT_top]; (repeat (first | exact Pick.nil | (apply Pick.cons; (focus ((repeat (first | exact Spl.here | apply Spl.there)); done))) | exact Pick.refl))) ⟨Nat.le_refl _, .inl rfl, by dsimp only; rw [upT_top]; exact SO.nil 1⟩ ?_
      rintro ⟨j, o', r, cp, sp⟩ ⟨hj, ho, so⟩
      dsimp only at hj ho so
      dsimp only
      have hUl : (upT k N j).length ≤ 800 := upT_len hN (by omega) (by omega)
      by_cases hj0 : j = 0
      · subst hj0
        rw [upT_zero (by omega)] at so ⊢
        have hbT := txt_b (b := 16) (by decide) (by decide) N
        have hlT := txt_len_pos 16 N (by decide)
        rw [upT_zero (by omega)] at hUl
        obtain ⟨q, rfl⟩ : ∃ q, r = some q := ⟨_, some_ref so (by omega)⟩
        have hcap := so.hle
        generalize txt 16 N = X at *
        repeat' first
          | apply cw_seq
          | (refine cw_region_id 7 ?_; (apply ol_mv; exact rfl; exact rfl); (apply ol_val; exact rfl; apply stp_cmp; apply s_geq; exact rfl; exact rfl; all_goals (intro hc18; try (exfalso; (first | exact hc18 rfl | omega)))); all_goals (apply ol_nil))
          | (refine cw_region_id 13 ?_; (apply ol_val; exact rfl; apply string_step; exact rfl; omega; exact hcap; omega; exact hbT); all_goals (apply ol_as; exact rfl; exact rfl); all_goals (apply ol_nil))
          | (apply cw_cond_true; exact rfl; (first | exact rfl | assumption))
          | (apply cw_cond_false; exact rfl; (first | exact rfl | assumption))
          | apply cw_skip
          | apply cw_ret
          | apply cw_block
          | apply cw_exit
        refine ends [] (RVal.tmp rfl RVal.nil) Pick.nil ?_
        rfl
      · obtain ⟨i, rfl⟩ : ∃ i, j = i + 1 := ⟨j - 1, by omega⟩
        have hl : i < (wI k N).length := by rw [wI_length]; omega
        have hc := s.cells i hl
        rw [wI_get hl] at hc
        have e1 : ((i + 1 : Nat) : Int) - 1 = ((i : Nat) : Int) := by omega
        rw [e1]
        have hx : N / W ^ i % W < W := Nat.mod_lt _ W_pos
        have hx32 : N / W ^ i % W < 4294967296 := hx
        have kf := fun (w' : World) (h : View.le M (View.of w')) => fmt16_spec h hL (u := N / W ^ i % W) (by omega)
        have hTb := txt_b (b := 16) (by decide) (by decide) (N / W ^ i % W)
        by_cases hik : i + 1 = k
        · have hst : upT k N i = upT k N (i + 1) ++ txt 16 (N / W ^ i % W) := by
            have := upT_first hk2.2 (by omega)
            rw [show k - 1 = i by omega] at this
            rwa [hik]
          have hTl := txt_len_le (b := 16) (k := 8) (by decide) (by decide) (show N / W ^ i % W < 16 ^ 8 by rw [← W_16]; exact hx)
          generalize N / W ^ i % W = x at *
          generalize txt 16 x = T at *
          generalize upT k N (i + 1) = U at *
          repeat' first
            | apply cw_seq
            | (refine cw_region_id 7 ?_; (apply ol_mv; exact rfl; exact rfl); (apply ol_val; exact rfl; apply stp_cmp; apply s_geq; exact rfl; exact rfl; all_goals (intro hc18; try (exfalso; (first | exact hc18 rfl | omega)))); all_goals (apply ol_nil))
            | (refine cw_region_id 9 ?_; (apply ol_fa; exact rfl; exact rfl; exact fd_25_0; (first | exact Nat.zero_add _ | exact Nat.add_zero _ | exact rfl)); (apply ol_ld; exact rfl; exact rfl; exact rfl; (first | (apply RdN.own; (focus ((repeat constructor); done)); exact GetN.cons rfl GetN.nil) | (apply RdN.view; exact hc))); (apply ol_mv; exact rfl; exact rfl); (apply ol_val; exact rfl; apply stp_pur; first | (apply s_indexK; exact rfl; exact rfl; exact el_23; exact sz_51; (first | exact rfl | exact s.at_ (by rw [wI_length]; omega)); omega) | (apply s_indexO; exact rfl; exact rfl; exact el_23; exact sz_51; (first | exact rfl | exact s.at_ (by rw [wI_length]; omega)); omega)); (apply ol_ld; exact rfl; exact rfl; exact rfl; (first | (apply RdN.own; (focus ((repeat constructor); done)); (first | exact GetN.cons rfl GetN.nil | (apply getN_ints_app; (first | omega | (simp; omega) | (simp; done))) | (apply getN_ints; (first | omega | (simp; omega) | (simp; done))))) | (apply RdN.view; exact hc))); (apply ol_val; exact rfl; apply stp_pur; first | (apply s_conv; exact rfl; exact rfl; exact ti_41; (focus (apply wrap_u64; omega))) | (apply s_conv; exact rfl; exact rfl; exact ti_41; exact rfl)); (apply ol_val; exact rfl; apply s_callv; exact rfl; exact gf_28; (intro w' hw'; exact kf w' hw'.le)); (apply ol_as; exact rfl; exact rfl); (apply ol_nil))
            | (refine cw_region_id 10 ?_; (apply ol_mv; exact rfl; exact rfl); (apply ol_fa; exact rfl; exact rfl; exact fd_25_0; (first | exact Nat.zero_add _ | exact Nat.add_zero _ | exact rfl)); (apply ol_ld; exact rfl; exact rfl; exact rfl; (first | (apply RdN.own; (focus ((repeat constructor); done)); exact GetN.cons rfl GetN.nil) | (apply RdN.view; exact hc))); (apply ol_val; exact rfl; apply stp_pur; apply s_len; exact rfl; exact el_23); (apply ol_val; exact rfl; apply stp_pur; apply s_sub64; exact rfl; exact rfl; omega); (apply ol_val; exact rfl; apply stp_cmp; apply s_lss; exact rfl; exact rfl; all_goals (intro hc33; try (exfalso; (first | exact hc33 rfl | omega)))); all_goals (apply ol_nil))
            | (refine cw_region_id 11 ?_; (apply ol_mv; exact rfl; exact rfl); (apply ol_val; exact rfl; apply stp_pur; apply s_len_string; exact rfl; exact rfl; exact rfl); (apply ol_val; exact rfl; apply stp_pur; apply s_sub64; exact rfl; exact rfl; omega))
            | (refine cw_region_id 12 ?_; (apply ol_mv; exact rfl; exact rfl); (apply ol_val; exact rfl; apply writeString_step; exact rfl; exact rfl; exact hTb; (first | exact ho | exact Or.inr rfl); exact so; omega; omega; intro r1 sp1 cap1 so1); all_goals (apply ol_nil))
            | (refine cw_region_id 8 ?_; (apply ol_mv; exact rfl; exact rfl); (apply ol_val; exact rfl; apply stp_pur; apply s_sub64; exact rfl; exact rfl; omega); (apply ol_as; exact rfl; exact rfl); (apply ol_nil))
            | (refine cw_region_id 13 ?_)
            | (apply cw_cond_true; exact rfl; (first | exact rfl | assumption))
            | (apply cw_cond_false; exact rfl; (first | exact rfl | assumption))
            | apply cw_skip
            | apply cw_ret
            | apply cw_block
            | apply cw_exit
          refine ⟨⟨i, some ⟨bk3, 0, none⟩, r1, cap1, sp1⟩, ⟨by (repeat (first | exact trivial | refine And.intro rfl ?_)), View.le.refl _, ?_, ⟨by dsimp only; omega, .inr rfl, ?_⟩, by dsimp only; omega⟩⟩
          · dsimp only
            rw [hst, show (U ++ _).length = U.length + _ from List.length_append]
            (repeat (first | exact Pick.nil | (apply Pick.cons; (focus ((repeat (first | exact Spl.here | apply Spl.there)); done))) | exact Pick.refl))
          · dsimp only
            rw [hst, show (U ++ _).length = U.length + _ from List.length_append]
            exact so1
        · have hst := upT_next (k := k) (N := N) (j := i) hk2.2 (by omega)
          obtain ⟨hTl, hRT⟩ := pad_txt (b := 16) (m := 8) (r := N / W ^ i % W) (by decide) (by decide) (by rw [← W_16]; exact hx)
          have hFl := fixT_length 16 8 (N / W ^ i % W)
          have hFb := fixT_b (b := 16) (by decide) (by decide) 8 (N / W ^ i % W)
          have hsz := strOf_size (txt 16 (N / W ^ i % W))
          have kr : ∀ (w' : World), FnC Tryd.prog 29 [.string (⟨#[48]⟩ : ByteArray), .int .i64 (8 - ((strOf (txt 16 (N / W ^ i % W))).size : Int))] w' (fun v _ => v = .string (strOf (List.replicate (8 - (txt 16 (N / W ^ i % W)).length) 48))) := fun w' => by
            rw [hsz]
            exact rep0_spec w' (m := 8) hTl (by decide)
          have hRl : (List.replicate (8 - (txt 16 (N / W ^ i % W)).length) (48 : Int)).length ≤ 8 := by rw [List.length_replicate]; omega
          rw [← hRT] at hst hFl hFb
          clear hRT
          generalize N / W ^ i % W = x at *
          generalize List.replicate (8 - (txt 16 x).length) (48 : Int) = R at *
          generalize txt 16 x = T at *
          generalize upT k N (i + 1) = U at *
          repeat' first
            | apply cw_seq
            | (refine cw_region_id 7 ?_; (apply ol_mv; exact rfl; exact rfl); (apply ol_val; exact rfl; apply stp_cmp; apply s_geq; exact rfl; exact rfl; all_goals (intro hc18; try (exfalso; (first | exact hc18 rfl | omega)))); all_goals (apply ol_nil))
            | (refine cw_region_id 9 ?_; (apply ol_fa; exact rfl; exact rfl; exact fd_25_0; (first | exact Nat.zero_add _ | exact Nat.add_zero _ | exact rfl)); (apply ol_ld; exact rfl; exact rfl; exact rfl; (first | (apply RdN.own; (focus ((repeat constructor); done)); exact GetN.cons rfl GetN.nil) | (apply RdN.view; exact hc))); (apply ol_mv; exact rfl; exact rfl); (apply ol_val; exact rfl; apply stp_pur; first | (apply s_indexK; exact rfl; exact rfl; exact el_23; exact sz_51; (first | exact rfl | exact s.at_ (by rw [wI_length]; omega)); omega) | (apply s_indexO; exact rfl; exact rfl; exact el_23; exact sz_51; (first | exact rfl | exact s.at_ (by rw [wI_length]; omega)); omega)); (apply ol_ld; exact rfl; exact rfl; exact rfl; (first | (apply RdN.own; (focus ((repeat constructor); done)); (first | exact GetN.cons rfl GetN.nil | (apply getN_ints_app; (first | omega | (simp; omega) | (simp; done))) | (apply getN_ints; (first | omega | (simp; omega) | (simp; done))))) | (apply RdN.view; exact hc))); (apply ol_val; exact rfl; apply stp_pur; first | (apply s_conv; exact rfl; exact rfl; exact ti_41; (focus (apply wrap_u64; omega))) | (apply s_conv; exact rfl; exact rfl; exact ti_41; exact rfl)); (apply ol_val; exact rfl; apply s_callv; exact rfl; exact gf_28; (intro w' hw'; exact kf w' hw'.le)); (apply ol_as; exact rfl; exact rfl); (apply ol_nil))
            | (refine cw_region_id 10 ?_; (apply ol_mv; exact rfl; exact rfl); (apply ol_fa; exact rfl; exact rfl; exact fd_25_0; (first | exact Nat.zero_add _ | exact Nat.add_zero _ | exact rfl)); (apply ol_ld; exact rfl; exact rfl; exact rfl; (first | (apply RdN.own; (focus ((repeat constructor); done)); exact GetN.cons rfl GetN.nil) | (apply RdN.view; exact hc))); (apply ol_val; exact rfl; apply stp_pur; apply s_len; exact rfl; exact el_23); (apply ol_val; exact rfl; apply stp_pur; apply s_sub64; exact rfl; exact rfl; omega); (apply ol_val; exact rfl; apply stp_cmp; apply s_lss; exact rfl; exact rfl; all_goals (intro hc33; try (exfalso; (first | exact hc33 rfl | omega)))); all_goals (apply ol_nil))
            | (refine cw_region_id 11 ?_; (apply ol_mv; exact rfl; exact rfl); (apply ol_val; exact rfl; apply stp_pur; apply s_len_string; exact rfl; exact rfl; exact rfl); (apply ol_val; exact rfl; apply stp_pur; apply s_sub64; exact rfl; exact rfl; omega); (apply ol_val; exact rfl; apply s_callv; exact rfl; exact gf_29; (intro w' hw'; exact kr w')); (apply ol_mv; exact rfl; exact rfl); (apply ol_val; exact rfl; apply stp_pur; apply s_cat; exact rfl; exact rfl; (first | omega)); (apply ol_as; exact rfl; exact rfl); (apply ol_nil))
            | (refine cw_region_id 12 ?_; (apply ol_mv; exact rfl; exact rfl); (apply ol_val; exact rfl; apply writeString_step; exact rfl; exact rfl; exact hFb; (first | exact ho | exact Or.inr rfl); exact so; omega; omega; intro r1 sp1 cap1 so1); all_goals (apply ol_nil))
            | (refine cw_region_id 8 ?_; (apply ol_mv; exact rfl; exact rfl); (apply ol_val; exact rfl; apply stp_pur; apply s_sub64; exact rfl; exact rfl; omega); (apply ol_as; exact rfl; exact rfl); (apply ol_nil))
            | (refine cw_region_id 13 ?_)
            | (apply cw_cond_true; exact rfl; (first | exact rfl | assumption))
            | (apply cw_cond_false; exact rfl; (first | exact rfl | assumption))
            | apply cw_skip
            | apply cw_ret
            | apply cw_block
            | apply cw_exit
          refine ⟨⟨i, some ⟨bk3, 0, none⟩, r1, cap1, sp1⟩, ⟨by (repeat (first | exact trivial | refine And.intro rfl ?_)), View.le.refl _, ?_, ⟨by dsimp only; omega, .inr rfl, ?_⟩, by dsimp only; omega⟩⟩
          · dsimp only
            rw [hst, show (U ++ _).length = U.length + _ from List.length_append]
            (repeat (first | exact Pick.nil | (apply Pick.cons; (focus ((repeat (first | exact Spl.here | apply Spl.there)); done))) | exact Pick.refl))
          · dsimp only
            rw [hst, show (U ++ _).length = U.length + _ from List.length_append]
            exact so1
  · rw [if_neg hv]
    have hv1 : vd k N = false := by simpa using hv
    rw [hv1] at kv
    rw [← strE]
    repeat' first
      | apply cw_seq
      | (refine cw_region_id 0 ?_; (apply ol_val; exact rfl; first | (apply s_boxN; exact rfl; intro bk1) | (apply s_box1; exact rfl; exact rfl; intro bk1)); (apply ol_as; exact rfl; exact rfl); (apply ol_nil))
      | (refine cw_region_id 1 ?_; (apply ol_ldN; exact rfl; exact rfl; exact rfl; exact sz_25; (apply RdN.own; (focus ((repeat constructor); done)); (focus ((repeat (first | exact rfl | constructor)); done)))); (apply ol_val; exact rfl; apply s_callv; exact rfl; exact gf_25; (intro w' hw'; exact kv w' hw'.le)); (apply ol_val; exact rfl; apply stp_pur; first | (apply s_not_t; exact rfl; (first | exact rfl | assumption)) | (apply s_not_f; exact rfl; (first | exact rfl | assumption)) | (apply s_not; exact rfl)); (apply ol_nil))
      | (refine cw_region_id 2 ?_; (apply ol_as; exact rfl; exact rfl); (apply ol_nil))
      | (apply cw_cond_true; exact rfl; (first | exact rfl | assumption))
      | (apply cw_cond_false; exact rfl; (first | exact rfl | assumption))
      | apply cw_skip
      | apply cw_ret
      | apply cw_block
      | apply cw_exit
    refine ends [] (RVal.tmp rfl RVal.nil) Pick.nil ?_
    rfl
end Go.Proofs.YtjaeblkgjbncmaaDoor

/-
  bytes.Equal; the example of the chapter.
-/
namespace Go.Proofs.YtjaeblkgjbncmaaDoor
set_option maxRecDepth 20000
set_option linter.unusedSimpArgs false
set_option linter.unusedVariables false
open Go Go.Fw
/-- The example. -/
def exN : Nat := 4886718345
def exD : List Int := [52, 56, 56, 54, 55, 49, 56, 51, 52, 53]
theorem exD_b : ∀ x ∈ exD, 0 ≤ x ∧ x ≤ 255 := by decide
theorem exD_s : (⟨#[52, 56, 56, 54, 55, 49, 56, 51, 52, 53]⟩ : ByteArray) = strOf exD := by decide
theorem exN_nd : nd W exN = 2 := nd_eq (by decide) (by decide) (by decide)
theorem exD_num : num 10 exD = exN := by decide
theorem exD_rd : rdP 10 exD = (0, exN) := by
  rw [rdP_ok (by decide) (by decide) (by decide) (by rw [exD_num, exN_nd]; decide), exD_num]
theorem exH_t : txt 16 exN = [49, 50, 51, 52, 53, 54, 55, 56, 57] := by
  have e : exN = num 16 [49, 50, 51, 52, 53, 54, 55, 56, 57] := by decide
  rw [e]
  exact txt_num (by decide) (by decide) ⟨by decide, by decide, by decide⟩
theorem exH_s : (⟨#[49, 50, 51, 52, 53, 54, 55, 56, 57]⟩ : ByteArray) = strOf (txP 16 2 exN) := by
  unfold txP vd
  rw [exN_nd, exH_t]
  decide
theorem exB : byP 2 exN 6 = (0, [0, 1, 35, 69, 103, 137]) := by
  unfold byP vd
  rw [exN_nd]
  decide
end Go.Proofs.YtjaeblkgjbncmaaDoor
namespace Go.Proofs.YtjaeblkgjbncmaaDoor
set_option maxRecDepth 20000
set_option linter.unusedSimpArgs false
set_option linter.unusedVariables false
open Go Go.Fw
attribute [local irreducible] CW OL OD FX Stp FnC FnV Ret wI vd strOf upT txt fixT
set_option maxHeartbeats 800000
theorem equal_spec {M : View} {w : World} (hM : View.le M (View.of w)) {l l' : List Int} {n n' c c' : Nat} (hn : l.length = n) (hn' : l'.length = n') (hl : ∀ x ∈ l, 0 ≤ x ∧ x ≤ 255) (hl' : ∀ x ∈ l', 0 ≤ x ∧ x ≤ 255) {a a' : Option Addr} {b o b' o' : Nat} (s : SlA M (eK .u8) 1 a l b o) (s' : SlA M (eK .u8) 1 a' l' b' o') :
    FnC Tryd.prog 22 [.slice a n c, .slice a' n' c'] w (fun v _ => v = .bool (decide (l = l'))) := by
  refine enterF (M := M) Tryd.func22 rfl rfl rfl rfl hM ?_
  have hbe := strOf_beq hl hl'
  repeat' first
    | apply cw_seq
    | (refine cw_region_id 0 ?_; (apply ol_as; exact rfl; exact rfl); (apply ol_nil))
    | (refine cw_region_id 1 ?_; (apply ol_mv; exact rfl; exact rfl); (apply ol_val; exact rfl; apply stp_pur; apply s_convBS; exact rfl; exact el_33; exact tdInt_eq ti_5; exact us_9; (first | exact s.atn hn | exact s'.atn hn'); (first | exact hn | exact hn'); (first | exact s.rd hn | exact s'.rd hn')); (apply ol_mv; exact rfl; exact rfl); (apply ol_val; exact rfl; apply stp_pur; apply s_convBS; exact rfl; exact el_33; exact tdInt_eq ti_5; exact us_9; (first | exact s.atn hn | exact s'.atn hn'); (first | exact hn | exact hn'); (first | exact s.rd hn | exact s'.rd hn')); (apply ol_val; exact rfl; apply stp_pur; apply s_eqlStr; exact rfl; exact rfl); (apply ol_as; exact rfl; exact rfl); (apply ol_nil))
    | (apply cw_cond_true; exact rfl; (first | exact rfl | assumption))
    | (apply cw_cond_false; exact rfl; (first | exact rfl | assumption))
    | apply cw_skip
    | apply cw_ret
    | apply cw_block
    | apply cw_exit
  refine ends [] (RVal.tmp rfl RVal.nil) Pick.nil ?_
  exact congrArg Value.bool hbe
theorem awake_spec {M : View} {w : World} (hM : View.le M (View.of w)) (hL : LT M) : FnC Tryd.prog 9 [] w (fun v _ => v = .bool true) := by
  refine enterF (M := M) Tryd.func9 rfl rfl rfl rfl hM ?_
  have kp : ∀ (w' : World), FnC Tryd.prog 10 [.string (⟨#[52, 56, 56, 54, 55, 49, 56, 51, 52, 53]⟩ : ByteArray)] w' (NRs (0, exN)) := fun w' => by
    have := parse_spec w' exD_b
    rwa [← exD_s, exD_rd] at this
  unfold NRs WR at kp
  dsimp only at kp
  rw [exN_nd] at kp
  have hN : exN < W ^ 2 := by rw [← exN_nd]; exact nd_lt (by decide) exN
  have kb : ∀ (w' : World) {r : Option Nat} {A : Option Addr} {c : Nat} {sp : List Value}, OB.ok ⟨r, flat (eK .u32) (wI 2 exN) ++ sp, 51⟩ w' → SO r 2 c (flat (eK .u32) (wI 2 exN)) sp 1 → FnC Tryd.prog 17 [.agg [.slice (base r A) 2 c].toArray, .int .i64 6] w' (BRs (0, [0, 1, 35, 69, 103, 137])) := fun w' r A c sp ho so => by
    have := bytes_spec (View.le.refl _) (c := c) hN (by omega) (SlA.ownW (A := A) ho so) 6
    rwa [exB] at this
  have kh : ∀ (w' : World) (h : View.le M (View.of w')) {r : Option Nat} {A : Option Addr} {c : Nat} {sp : List Value}, OB.ok ⟨r, flat (eK .u32) (wI 2 exN) ++ sp, 51⟩ w' → SO r 2 c (flat (eK .u32) (wI 2 exN)) sp 1 → FnC Tryd.prog 13 [.agg [.slice (base r A) 2 c].toArray] w' (fun v _ => v = .string (⟨#[49, 50, 51, 52, 53, 54, 55, 56, 57]⟩ : ByteArray)) := fun w' h r A c sp ho so => by
    rw [exH_s]
    exact hex_spec (View.le.refl _) (hL.mono h) (c := c) hN (by omega) (SlA.ownW (A := A) ho so)
  unfold BRs RowRes at kb
  dsimp only at kb
  have ke : ∀ (w' : World) {r : Option Nat} {A : Option Addr} {c q : Nat} {sp : List Value}, OB.ok ⟨r, flat (eK .u8) [0, 1, 35, 69, 103, 137] ++ sp, 5⟩ w' → SO r [0, 1, 35, 69, 103, 137].length c (flat (eK .u8) [0, 1, 35, 69, 103, 137]) sp 1 → OB.ok ⟨some q, [.int .u8 0, .int .u8 1, .int .u8 35, .int .u8 69, .int .u8 103, .int .u8 137], 5⟩ w' → FnC Tryd.prog 22 [.slice (base r A) [0, 1, 35, 69, 103, 137].length c, .slice (some ⟨q, 0, none⟩) 6 6] w' (fun v _ => v = .bool true) := fun w' r A c q sp ho so hq =>
    equal_spec (View.le.refl _) (l := [0, 1, 35, 69, 103, 137]) (l' := [0, 1, 35, 69, 103, 137]) rfl rfl (by decide) (by decide) (SlA.own (A := A) (eK_length .u8) ho (fun h => so.emp h)) (SlA.part0 (k := .u8) (xs := [0, 1, 35, 69, 103, 137]) hq)
  have hbe : ((⟨#[49, 50, 51, 52, 53, 54, 55, 56, 57]⟩ : ByteArray).toList == (⟨#[49, 50, 51, 52, 53, 54, 55, 56, 57]⟩ : ByteArray).toList) = true := beq_self_eq_true _
  repeat' first
    | apply cw_seq
    | (refine cw_region_id 0 ?_; (apply ol_as; exact rfl; exact rfl); (apply ol_nil))
    | (refine cw_region_id 1 ?_; (apply ol_val; exact rfl; apply s_call; exact rfl; exact gf_10; (intro w' hw'; exact kp w'); ((intro v new h; obtain ⟨_, rfl, r1, A1, cap1, sp1, rfl, rfl, so1⟩ := h))); (apply ol_mv; exact rfl; exact rfl); (apply ol_ex; exact rfl; exact rfl; exact rfl); (apply ol_ex; exact rfl; exact rfl; exact rfl); (apply ol_val; exact rfl; apply s_alloc; exact zb_25; (focus ((repeat constructor); done)); intro bk1); (apply ol_eff; apply s_storeN; exact rfl; exact rfl; exact sz_25; exact rfl; exact rfl; (focus ((repeat constructor); done)); (focus ((repeat constructor); done))); (apply ol_as; exact rfl; exact rfl); (apply ol_nil))
    | (refine cw_region_id 2 ?_; (apply ol_ldN; exact rfl; exact rfl; exact rfl; exact sz_25; (apply RdN.own; (focus ((repeat constructor); done)); (focus ((repeat (first | exact rfl | constructor)); done)))); (apply ol_val; exact rfl; apply s_call; exact rfl; exact gf_17; (intro w' hw'; exact kb w' (hw'.ok_ (by (repeat (first | exact Has.here | apply Has.there)))) so1); ((intro v new h; obtain ⟨_, rfl, r2, A2, cap2, sp2, rfl, rfl, so2⟩ := h))); (apply ol_mv; exact rfl; exact rfl); (apply ol_ex; exact rfl; exact rfl; exact rfl); (apply ol_ex; exact rfl; exact rfl; exact rfl); (apply ol_as; exact rfl; exact rfl); (apply ol_as; exact rfl; exact rfl); (apply ol_nil))
    | (refine cw_region_id 3 ?_; (apply ol_mv; exact rfl; exact rfl); (apply ol_val; exact rfl; apply stp_cmp; apply s_eql; exact rfl; exact rfl; all_goals (intro hc15; try (exfalso; (first | exact hc15 rfl | omega)))); all_goals (apply ol_mv; exact rfl; exact rfl); all_goals (first | (apply ol_gskip; exact rfl; exact rfl; (first | exact rfl | assumption); exact rfl) | (apply ol_gval; exact rfl; exact rfl; exact rfl; (first | exact rfl | assumption); apply stp_pur; apply s_loadN; exact rfl; exact rfl; exact sz_25; (apply RdN.own; (focus ((repeat constructor); done)); (focus ((repeat (first | exact rfl | constructor)); done))))); all_goals (first | (apply ol_gskip; exact rfl; exact rfl; (first | exact rfl | assumption); exact rfl) | (apply ol_gval; exact rfl; exact rfl; exact rfl; (first | exact rfl | assumption); apply s_callv; exact rfl; exact gf_13; (intro w' hw'; exact kh w' hw'.le (hw'.ok_ (by (repeat (first | exact Has.here | apply Has.there)))) so1))); all_goals (first | (apply ol_gskip; exact rfl; exact rfl; (first | exact rfl | assumption); exact rfl) | (apply ol_gval; exact rfl; exact rfl; exact rfl; (first | exact rfl | assumption); apply stp_pur; apply s_eqlStr; exact rfl; exact rfl)); all_goals (apply ol_val; exact rfl; apply stp_pur; first | (apply s_pick_t; exact rfl; (first | exact rfl | assumption); exact rfl) | (apply s_pick_f; exact rfl; (first | exact rfl | assumption); exact rfl)); all_goals (apply ol_mv; exact rfl; exact rfl); all_goals (first | (apply ol_gskip; exact rfl; exact rfl; (first | exact rfl | assumption); exact rfl) | (apply ol_gval; exact rfl; exact rfl; exact rfl; (first | exact rfl | assumption); apply stp_pur; apply s_move; exact rfl)); all_goals (first | (apply ol_gskip; exact rfl; exact rfl; (first | exact rfl | assumption); exact rfl) | (apply ol_gval; exact rfl; exact rfl; exact rfl; (first | exact rfl | assumption); apply stp_cmp; apply s_eql; exact rfl; exact rfl; all_goals (intro hc23; try (exfalso; (first | exact hc23 rfl | omega))))); all_goals (apply ol_val; exact rfl; apply stp_pur; first | (apply s_pick_t; exact rfl; (first | exact rfl | assumption); exact rfl) | (apply s_pick_f; exact rfl; (first | exact rfl | assumption); exact rfl)); all_goals (apply ol_mv; exact rfl; exact rfl); all_goals (first | (apply ol_gskip; exact rfl; exact rfl; (first | exact rfl | assumption); exact rfl) | (apply ol_gval; exact rfl; exact rfl; exact rfl; (first | exact rfl | assumption); apply stp_pur; apply s_move; exact rfl)); all_goals (first | (apply ol_gskip; exact rfl; exact rfl; (first | exact rfl | assumption); exact rfl) | (apply ol_gval; exact rfl; exact rfl; exact rfl; (first | exact rfl | assumption); apply s_buildSl; exact rfl; exact el_33; exact sz_5; exact zb_5; (focus ((repeat constructor); done)); exact rfl; exact rfl; (exact Nat.le_of_ble_eq_true rfl); (focus ((repeat constructor); done)); (focus ((repeat (first | exact rfl | constructor)); done)); intro bk27)); all_goals (first | (apply ol_gskip; exact rfl; exact rfl; (first | exact rfl | assumption); exact rfl) | (apply ol_gval; exact rfl; exact rfl; exact rfl; (first | exact rfl | assumption); apply s_callv; exact rfl; exact gf_22; (intro w' hw'; exact ke w' (hw'.ok_ (by (repeat (first | exact Has.here | apply Has.there)))) so2 (hw'.ok_ (by (repeat (first | exact Has.here | apply Has.there))))))); all_goals (apply ol_val; exact rfl; apply stp_pur; first | (apply s_pick_t; exact rfl; (first | exact rfl | assumption); exact rfl) | (apply s_pick_f; exact rfl; (first | exact rfl | assumption); exact rfl)); all_goals (apply ol_as; exact rfl; exact rfl); all_goals (apply ol_nil))
    | (apply cw_cond_true; exact rfl; (first | exact rfl | assumption))
    | (apply cw_cond_false; exact rfl; (first | exact rfl | assumption))
    | apply cw_skip
    | apply cw_ret
    | apply cw_block
    | apply cw_exit
  refine ends [] (RVal.tmp rfl RVal.nil) Pick.nil ?_
  rfl
end Go.Proofs.YtjaeblkgjbncmaaDoor
