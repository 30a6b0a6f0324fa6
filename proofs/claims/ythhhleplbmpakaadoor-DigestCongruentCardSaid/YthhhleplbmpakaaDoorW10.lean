/-
  strings.Builder: String, where it is called.
-/
import Derived.Test.YthhhleplbmpakaaDoorW9
namespace Go.Proofs.YthhhleplbmpakaaDoor
set_option maxRecDepth 20000
set_option linter.unusedSimpArgs false
set_option linter.unusedVariables false
open Go Go.Fw
attribute [local irreducible] CW OL OD FX Stp FnC Ret
set_option maxHeartbeats 800000

theorem string_step {ts : Array TypeId} {n : Nat} {wE : World} {mu : List Nat} {fm : FM} {M : View} {rest : List OB} {K : Value → View → List OB → Prop} {d : Option Nat} {ty : TypeId} {pos : String} {af : Array Edge} {g : Option (Nat × Bool)} {x : Operand} {b q : Nat} {pa : Value} {cap : Nat} {xs : List Int} {sp : List Value}
    (hx : ev fm x = some (.pointer (some ⟨b, 0, none⟩))) (h0 : 0 < xs.length) (hc : xs.length ≤ cap) (hl : xs.length ≤ 1073741824) (hb : ∀ x ∈ xs, 0 ≤ x ∧ x ≤ 255)
    (hk : K (.string (strOf xs)) M (⟨some b, [pa, .slice (some ⟨q, 0, none⟩) xs.length cap], 70⟩ :: rest)) :
    Stp ⟨Tryd.prog, n, wE, mu⟩ ⟨d, .call { callee := .value (.func 42), args := #[x], argTypes := ts }, ty, pos, af, g⟩ fm M (⟨some b, [pa, .slice (some ⟨q, 0, none⟩) xs.length cap], 70⟩ :: ⟨some q, flat (eK .u8) xs ++ sp, 5⟩ :: rest) K := by
  refine s_inline (xs := [x]) (vs := [.pointer (some ⟨b, 0, none⟩)]) (by simp [evs, hx]) (by kernel_rfl) Tryd.func42 rfl rfl rfl rfl ?_
  repeat' first
    | apply cw_seq
    | (refine cw_region_id 0 ?_; (apply ol_as; exact rfl; exact rfl); (apply ol_nil))
    | (refine cw_draw (id := 1) 10 (.mv 0 (.mv 1 (.mv 2 (.mv 3 (.mv 5 (.mv 6 (.mv 7 (.mv 8 (.mv 9 (.fx 4 (PT.nil))))))))))) mixed (by kernel_rfl) ?_; (apply od_mv; exact rfl; exact rfl; apply s_move; exact rfl); (apply od_mv; exact rfl; exact rfl; apply s_nilCheck; exact rfl); (apply od_mv; exact rfl; exact rfl; apply s_fieldAddr'; exact rfl; exact fd_70_1; (first | exact Nat.zero_add _ | exact Nat.add_zero _ | exact rfl)); (apply od_mv; exact rfl; exact rfl; apply s_load1; exact rfl; exact rfl; (apply RdN.own; (focus ((repeat constructor); done)); exact GetN.cons rfl GetN.nil)); (apply od_mv; exact rfl; exact rfl; apply s_move; exact rfl); (apply od_mv; exact rfl; exact rfl; apply s_nilCheck; exact rfl); (apply od_mv; exact rfl; exact rfl; apply s_fieldAddr'; exact rfl; exact fd_70_1; (first | exact Nat.zero_add _ | exact Nat.add_zero _ | exact rfl)); (apply od_mv; exact rfl; exact rfl; apply s_load1; exact rfl; exact rfl; (apply RdN.own; (focus ((repeat constructor); done)); exact GetN.cons rfl GetN.nil)); (apply od_mv; exact rfl; exact rfl; apply s_len; exact rfl; exact el_22); (apply od_fx; (first | exact Wk.refl _ _ | (focus (apply Wk.mk; exact View.le.refl _; (repeat constructor); done))); (apply fx_val; exact rfl; exact rfl; apply stp_pur; apply s_sliceData; exact rfl; omega)); (apply od_nil; (first | exact Wk.refl _ _ | (focus (apply Wk.mk; exact View.le.refl _; (repeat constructor); done)))); (apply ol_val; exact rfl; apply s_unsafeString; exact rfl; exact rfl; (focus ((repeat constructor); done)); exact pu_86; exact ce_5; omega; omega; (first | assumption | exact hb)); (apply ol_as; exact rfl; exact rfl); (apply ol_nil))
    | (apply cw_cond_true; exact rfl; (first | exact rfl | assumption))
    | (apply cw_cond_false; exact rfl; (first | exact rfl | assumption))
    | apply cw_skip
    | apply cw_ret
    | apply cw_block
    | apply cw_exit
  exact endI (RVal.tmp rfl RVal.nil) Pick.refl hk
end Go.Proofs.YthhhleplbmpakaaDoor
