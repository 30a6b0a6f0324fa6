/-
  strings.Builder: WriteByte, where it is called.
-/
import Derived.Test.YthhhleplbmpakaaDoorW8
import Derived.Test.YthhhleplbmpakaaDoorTyP
namespace Go.Proofs.YthhhleplbmpakaaDoor
set_option maxRecDepth 20000
set_option linter.unusedSimpArgs false
set_option linter.unusedVariables false
open Go Go.Fw
attribute [local irreducible] CW OL OD FX Stp FnC Ret
set_option maxHeartbeats 800000

theorem copyCheck_step {ts : Array TypeId} {n : Nat} {wE : World} {mu : List Nat} {fm : FM} {M : View} {rest : List OB} {K : Value → View → List OB → Prop} {d : Option Nat} {ty : TypeId} {pos : String} {af : Array Edge} {g : Option (Nat × Bool)} {x : Operand} {b : Nat} {o : Option Addr} {v : Value}
    (hx : ev fm x = some (.pointer (some ⟨b, 0, none⟩))) (ho : o = none ∨ o = some ⟨b, 0, none⟩) (hk : K (.tuple #[]) M (⟨some b, [.pointer (some ⟨b, 0, none⟩), v], 70⟩ :: rest)) :
    Stp ⟨Tryd.prog, n, wE, mu⟩ ⟨d, .call { callee := .value (.func 56), args := #[x], argTypes := ts }, ty, pos, af, g⟩ fm M (⟨some b, [.pointer o, v], 70⟩ :: rest) K := by
  refine s_inline (xs := [x]) (vs := [.pointer (some ⟨b, 0, none⟩)]) (by simp [evs, hx]) (by kernel_rfl) Tryd.func56 rfl rfl rfl rfl ?_
  rcases ho with rfl | rfl
  ·
    repeat' first
      | apply cw_seq
      | (refine cw_region_id 0 ?_; (apply ol_mv; exact rfl; exact rfl); (apply ol_val; exact rfl; apply stp_pur; apply s_nilCheck; exact rfl); (apply ol_fa; exact rfl; exact rfl; exact fd_70_0; (first | exact Nat.zero_add _ | exact Nat.add_zero _ | exact rfl)); (apply ol_ld; exact rfl; exact rfl; exact rfl; (apply RdN.own; (focus ((repeat constructor); done)); exact GetN.cons rfl GetN.nil)); (apply ol_val; exact rfl; apply stp_pur; first | (apply s_eqlPn; exact rfl; exact pu_68) | (apply s_eqlPs; exact rfl; exact pu_68)); (apply ol_nil))
      | (refine cw_region_id 1 ?_; (apply ol_mv; exact rfl; exact rfl); (apply ol_mv; exact rfl; exact rfl); (apply ol_val; exact rfl; apply stp_pur; apply s_toUns; exact rfl; exact pu_68; exact uu_88; exact sz_70; exact rfl; (focus ((repeat constructor); done)); exact rfl); (apply ol_val; exact rfl; apply s_extern; exact rfl; exact Tryd.func60; exact en_60; exact eb_60; exact ex_60; exact ef_60; (intro w; exact Lib.run_noEscape w _)); all_goals (apply ol_val; exact rfl; apply stp_pur; apply s_fromUns; exact rfl; exact uu_88; exact pu_68; exact sz_70; (focus ((repeat constructor); done)); exact li_70); all_goals (apply ol_val; exact rfl; apply stp_pur; apply s_nilCheck; exact rfl); all_goals (apply ol_fa; exact rfl; exact rfl; exact fd_70_0; (first | exact Nat.zero_add _ | exact Nat.add_zero _ | exact rfl)); all_goals (apply ol_eff; apply s_store1; exact rfl; exact rfl; exact sz_68; exact rfl; (focus ((repeat constructor); done)); (first | (focus ((repeat constructor); done)) | (apply setAt_ints_app; (first | omega | (simp; omega) | (simp; done))) | (apply setAt_ints; (first | omega | (simp; omega) | (simp; done))) | (apply SetAt.set; (first | omega | (simp; omega) | (simp; done))))); all_goals (apply ol_nil))
      | (refine cw_region_id 2 ?_; (apply ol_mv; exact rfl; exact rfl); (apply ol_val; exact rfl; apply stp_pur; apply s_nilCheck; exact rfl); (apply ol_fa; exact rfl; exact rfl; exact fd_70_0; (first | exact Nat.zero_add _ | exact Nat.add_zero _ | exact rfl)); (apply ol_ld; exact rfl; exact rfl; exact rfl; (apply RdN.own; (focus ((repeat constructor); done)); exact GetN.cons rfl GetN.nil)); (apply ol_mv; exact rfl; exact rfl); (apply ol_val; exact rfl; apply stp_pur; apply s_neqPP; exact rfl; exact rfl; exact pu_68; exact sz_70); (apply ol_nil))
      | (apply cw_cond_true; exact rfl; (first | exact rfl | assumption))
      | (apply cw_cond_false; exact rfl; (first | exact rfl | assumption))
      | apply cw_skip
      | apply cw_ret
      | apply cw_block
      | apply cw_exit
    exact endI RVal.nil (by (repeat (first | exact Pick.nil | (apply Pick.cons; (focus ((repeat (first | exact Spl.here | apply Spl.there)); done))) | exact Pick.refl))) hk
  ·
    repeat' first
      | apply cw_seq
      | (refine cw_region_id 0 ?_; (apply ol_mv; exact rfl; exact rfl); (apply ol_val; exact rfl; apply stp_pur; apply s_nilCheck; exact rfl); (apply ol_fa; exact rfl; exact rfl; exact fd_70_0; (first | exact Nat.zero_add _ | exact Nat.add_zero _ | exact rfl)); (apply ol_ld; exact rfl; exact rfl; exact rfl; (apply RdN.own; (focus ((repeat constructor); done)); exact GetN.cons rfl GetN.nil)); (apply ol_val; exact rfl; apply stp_pur; first | (apply s_eqlPn; exact rfl; exact pu_68) | (apply s_eqlPs; exact rfl; exact pu_68)); (apply ol_nil))
      | (refine cw_region_id 1 ?_; (apply ol_mv; exact rfl; exact rfl); (apply ol_mv; exact rfl; exact rfl); (apply ol_val; exact rfl; apply stp_pur; apply s_toUns; exact rfl; exact pu_68; exact uu_88; exact sz_70; exact rfl; (focus ((repeat constructor); done)); exact rfl))
      | (refine cw_region_id 2 ?_; (apply ol_mv; exact rfl; exact rfl); (apply ol_val; exact rfl; apply stp_pur; apply s_nilCheck; exact rfl); (apply ol_fa; exact rfl; exact rfl; exact fd_70_0; (first | exact Nat.zero_add _ | exact Nat.add_zero _ | exact rfl)); (apply ol_ld; exact rfl; exact rfl; exact rfl; (apply RdN.own; (focus ((repeat constructor); done)); exact GetN.cons rfl GetN.nil)); (apply ol_mv; exact rfl; exact rfl); (apply ol_val; exact rfl; apply stp_pur; apply s_neqPP; exact rfl; exact rfl; exact pu_68; exact sz_70); (apply ol_nil))
      | (apply cw_cond_true; exact rfl; (first | exact rfl | assumption))
      | (apply cw_cond_false; exact rfl; (first | exact rfl | assumption))
      | apply cw_skip
      | apply cw_ret
      | apply cw_block
      | apply cw_exit
    exact endI RVal.nil (by (repeat (first | exact Pick.nil | (apply Pick.cons; (focus ((repeat (first | exact Spl.here | apply Spl.there)); done))) | exact Pick.refl))) hk

theorem writeByte_step {ts : Array TypeId} {n : Nat} {wE : World} {mu : List Nat} {fm : FM} {M : View} {rest : List OB} {K : Value → View → List OB → Prop} {d : Option Nat} {ty : TypeId} {pos : String} {af : Array Edge} {g : Option (Nat × Bool)} {x y : Operand} {b : Nat} {o : Option Addr} {r : Option Nat} {cap : Nat} {xs : List Int} {sp : List Value} {c : Int} {m : Nat}
    (hx : ev fm x = some (.pointer (some ⟨b, 0, none⟩))) (hy : ev fm y = some (.int .u8 c)) (ho : o = none ∨ o = some ⟨b, 0, none⟩) (so : SO r m cap (flat (eK .u8) xs) sp 1) (hl : m ≤ 1073741824)
    (hk : ∀ r' sp' cap', SO r' (m + 1) cap' (flat (eK .u8) (xs ++ [c])) sp' 1 → K .nilIface M (⟨some b, [.pointer (some ⟨b, 0, none⟩), .slice (base r' none) (m + 1) cap'], 70⟩ :: ⟨r', flat (eK .u8) (xs ++ [c]) ++ sp', 5⟩ :: rest)) :
    Stp ⟨Tryd.prog, n, wE, mu⟩ ⟨d, .call { callee := .value (.func 41), args := #[x, y], argTypes := ts }, ty, pos, af, g⟩ fm M (⟨some b, [.pointer o, .slice (base r none) m cap], 70⟩ :: ⟨r, flat (eK .u8) xs ++ sp, 5⟩ :: rest) K := by
  refine s_inline (xs := [x, y]) (vs := [.pointer (some ⟨b, 0, none⟩), .int .u8 c]) (by simp [evs, hx, hy]) (by kernel_rfl) Tryd.func41 rfl rfl rfl rfl ?_
  have e : flat (eK .u8) (xs ++ [c]) = flat (eK .u8) xs ++ [.int .u8 c] := by rw [flat_append, flat_one]
  rw [e] at hk
  repeat' first
    | apply cw_seq
    | (refine cw_region_id 0 ?_; (apply ol_as; exact rfl; exact rfl); (apply ol_nil))
    | (refine cw_region_id 1 ?_; (apply ol_mv; exact rfl; exact rfl); (apply ol_val; exact rfl; apply copyCheck_step; exact rfl; exact ho); all_goals (apply ol_nil))
    | (refine cw_region_id 2 ?_; (apply ol_mv; exact rfl; exact rfl); (apply ol_mv; exact rfl; exact rfl); (apply ol_val; exact rfl; apply stp_pur; apply s_nilCheck; exact rfl); (apply ol_fa; exact rfl; exact rfl; exact fd_70_1; (first | exact Nat.zero_add _ | exact Nat.add_zero _ | exact rfl)); (apply ol_ld; exact rfl; exact rfl; exact rfl; (apply RdN.own; (focus ((repeat constructor); done)); exact GetN.cons rfl GetN.nil)); (apply ol_mv; exact rfl; exact rfl); (apply ol_val; exact rfl; apply s_buildSl; exact rfl; exact el_22; exact sz_5; exact zb_5; (focus ((repeat constructor); done)); exact rfl; exact rfl; (exact Nat.le_of_ble_eq_true rfl); (focus ((repeat constructor); done)); (focus ((repeat (first | exact rfl | constructor)); done)); intro bk13); (apply ol_val; exact rfl; first | (apply s_append_e; exact rfl; exact rfl; (focus ((repeat constructor); done)); exact el_22; exact sz_5; exact zb_5; exact rfl; exact by_5; (first | exact (fun _ => rfl)); (first | (apply RdN.own; (focus ((repeat constructor); done)); (focus ((repeat (first | exact rfl | constructor)); done)))); (first | exact rfl); (first | omega | (simp; omega) | (simp; done)); (first | omega | (simp; omega) | (simp; done)); intro rk14 sk14 ck14 ok14) | (apply s_append_r; exact rfl; exact rfl; (focus ((repeat constructor); done)); (first | exact rfl | exact (List.append_nil _).symm); exact el_22; exact sz_5; exact zb_5; exact rfl; exact by_5; (first | exact SO.nil _ | assumption | (exact ⟨by simp, by simp, Nat.le_refl _, by simp⟩)); (first | exact (fun _ => rfl)); (first | (apply RdN.own; (focus ((repeat constructor); done)); (focus ((repeat (first | exact rfl | constructor)); done)))); (first | exact rfl); (first | omega | (simp; omega) | (simp; done)); (first | omega | (simp; omega) | (simp; done)); intro rk14 sk14 ck14 ok14) | (apply s_append_b; exact rfl; exact rfl; (focus ((repeat constructor); done)); (first | exact rfl | exact (List.append_nil _).symm); exact el_22; exact sz_5; exact zb_5; exact rfl; exact by_5; (first | exact SO.nil _ | assumption | (exact ⟨by simp, by simp, Nat.le_refl _, by simp⟩)); (first | exact (fun _ => rfl)); (first | (apply RdN.own; (focus ((repeat constructor); done)); (focus ((repeat (first | exact rfl | constructor)); done)))); (first | exact rfl); (first | omega | (simp; omega) | (simp; done)); (first | omega | (simp; omega) | (simp; done)); intro rk14 sk14 ck14 ok14) | (apply s_append_n; exact rfl; exact rfl; (focus ((repeat constructor); done)); exact el_22; exact sz_5; exact zb_5; exact rfl; exact by_5; (first | exact (fun _ => rfl)); (first | (apply RdN.own; (focus ((repeat constructor); done)); (focus ((repeat (first | exact rfl | constructor)); done)))); (first | exact rfl); (first | omega | (simp; omega) | (simp; done)); (first | omega | (simp; omega) | (simp; done)); intro rk14 sk14 ck14 ok14)); (apply ol_val; exact rfl; apply stp_pur; apply s_nilCheck; exact rfl); (apply ol_fa; exact rfl; exact rfl; exact fd_70_1; (first | exact Nat.zero_add _ | exact Nat.add_zero _ | exact rfl)); (apply ol_eff; apply s_store1; exact rfl; exact rfl; exact sz_22; exact rfl; (focus ((repeat constructor); done)); (first | (focus ((repeat constructor); done)) | (apply setAt_ints_app; (first | omega | (simp; omega) | (simp; done))) | (apply setAt_ints; (first | omega | (simp; omega) | (simp; done))) | (apply SetAt.set; (first | omega | (simp; omega) | (simp; done))))); (apply ol_nil))
    | (refine cw_region_id 3 ?_; (apply ol_as; exact rfl; exact rfl); (apply ol_nil))
    | (apply cw_cond_true; exact rfl; (first | exact rfl | assumption))
    | (apply cw_cond_false; exact rfl; (first | exact rfl | assumption))
    | apply cw_skip
    | apply cw_ret
    | apply cw_block
    | apply cw_exit
  exact endIS (RVal.tmp rfl RVal.nil) (List.sublist_cons_self _ _) (hk rk14 sk14 ck14 ok14)
end Go.Proofs.YthhhleplbmpakaaDoor
