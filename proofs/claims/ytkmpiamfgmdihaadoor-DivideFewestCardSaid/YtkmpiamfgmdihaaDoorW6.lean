/-
  The walks of Mark, Largest, and the covers.
-/
import Derived.Test.YtkmpiamfgmdihaaDoorW5
namespace Go.Proofs.YtkmpiamfgmdihaaDoor
set_option maxRecDepth 20000
set_option linter.unusedSimpArgs false
set_option linter.unusedVariables false
open Go Go.Fw
def toC2 (p : Nat × Nat) : C2 := ⟨(p.1 : Nat), (p.2 : Nat)⟩
theorem toC2_enc (l i : Nat) : (toC2 (l, i)).enc = [.int .i64 (l : Nat), .int .i64 (i : Nat)] := rfl
theorem SlA.frozen {α : Type} {enc : α → List Value} {sz : Nat} (he : ∀ x, (enc x).length = sz) {V : View} {b : Nat} {xs : List α} {sp : List Value} (h : ∀ j, V.cell b j = (flat enc xs ++ sp)[j]?) : SlA V enc sz (some ⟨b, 0, none⟩) xs b 0 :=
  ⟨fun _ => rfl, fun i hi => (getN_flat he (sp := sp) hi).mono fun j v hv => by rw [h j]; exact hv⟩
theorem flat_snoc {out : List (Nat × Nat)} {l i : Nat} : flat C2.enc ((out ++ [(l, i)]).map toC2) = flat C2.enc (out.map toC2) ++ [.int .i64 (l : Nat), .int .i64 (i : Nat)] := by
  rw [List.map_append, flat_append]; rfl
end Go.Proofs.YtkmpiamfgmdihaaDoor
namespace Go.Proofs.YtkmpiamfgmdihaaDoor
set_option maxRecDepth 20000
set_option linter.unusedSimpArgs false
set_option linter.unusedVariables false
open Go Go.Fw
attribute [local irreducible] CW OL OD FX Stp FnC Ret sz seg freeN setR markN cov greatest
set_option maxHeartbeats 800000

theorem Mark_arg (w : World) {n c : Nat} (hn : n ≤ 100) (h : ∀ d, d ≤ 5 → n ≠ 2 ^ d) (a : Option Addr) (x : C2) :
    FnC Tryd.prog 27 [.slice a n c, .agg x.enc.toArray] w (fun v _ => v = .tuple #[.slice none 0 0, .int .i64 1]) := by
  refine enterF (M := View.of w) Tryd.func27 rfl rfl rfl rfl (View.le.refl _) ?_
  repeat' first
    | apply cw_seq
    | (refine cw_region_id 0 ?_; (apply ol_val; exact rfl; first | (apply s_boxN; exact rfl; intro bk3) | (apply s_box1; exact rfl; exact rfl; intro bk3)); (apply ol_as; exact rfl; exact rfl); (apply ol_as; exact rfl; exact rfl); (apply ol_nil))
    | (refine cw_region_id 1 ?_; (apply ol_mv; exact rfl; exact rfl); (apply ol_val; exact rfl; apply s_call; exact rfl; exact gf_39; (intro w' hw'; exact state_no w' hn h a); ((intro v new hv; obtain ⟨⟨j, rfl⟩, rfl⟩ := hv))); (apply ol_mv; exact rfl; exact rfl); (apply ol_ex; exact rfl; exact rfl; exact rfl); (apply ol_ex; exact rfl; exact rfl; exact rfl); (apply ol_as; exact rfl; exact rfl); (apply ol_as; exact rfl; exact rfl); (apply ol_nil))
    | (refine cw_region_id 2 ?_; (apply ol_mv; exact rfl; exact rfl); (apply ol_val; exact rfl; apply stp_pur; first | (apply s_not_t; exact rfl; (first | exact rfl | assumption)) | (apply s_not_f; exact rfl; (first | exact rfl | assumption)) | (apply s_not; exact rfl)); (apply ol_as; exact rfl; exact rfl); (apply ol_nil))
    | (refine cw_region_id 3 ?_; (apply ol_as; exact rfl; exact rfl); (apply ol_as; exact rfl; exact rfl); (apply ol_nil))
    | (refine cw_region_id 4 ?_; (apply ol_mv; exact rfl; exact rfl); (apply ol_ldN; exact rfl; exact rfl; exact rfl; exact sz_32; (apply RdN.own; (focus ((repeat constructor); done)); (focus ((repeat (first | exact rfl | constructor)); done)))))
    | (refine cw_region_id 5 ?_; (apply ol_as; exact rfl; exact rfl); (apply ol_as; exact rfl; exact rfl); (apply ol_nil))
    | (refine cw_region_id 6 ?_; (apply ol_mv; exact rfl; exact rfl); (apply ol_mv; exact rfl; exact rfl); (apply ol_ldN; exact rfl; exact rfl; exact rfl; exact sz_32; (apply RdN.own; (focus ((repeat constructor); done)); (focus ((repeat (first | exact rfl | constructor)); done)))))
    | (refine cw_region_id 7 ?_; (apply ol_as; exact rfl; exact rfl); (apply ol_as; exact rfl; exact rfl); (apply ol_nil))
    | (refine cw_region_id 8 ?_; (apply ol_mv; exact rfl; exact rfl); (apply ol_mv; exact rfl; exact rfl); (apply ol_ldN; exact rfl; exact rfl; exact rfl; exact sz_32; (apply RdN.own; (focus ((repeat constructor); done)); (focus ((repeat (first | exact rfl | constructor)); done)))))
    | (apply cw_cond_true; exact rfl; (first | exact rfl | assumption))
    | (apply cw_cond_false; exact rfl; (first | exact rfl | assumption))
    | apply cw_skip
    | apply cw_ret
    | apply cw_block
    | apply cw_exit
  refine ends [] (RVal.tmp rfl (RVal.tmp rfl RVal.nil)) Pick.nil ?_
  rfl
theorem Mark_range (w : World) {d n c : Nat} (hd : d ≤ 5) (hp : n = 2 ^ d) (a : Option Addr) {x : C2} (hx : ¬ nodeP d x) :
    FnC Tryd.prog 27 [.slice a n c, .agg x.enc.toArray] w (fun v _ => v = .tuple #[.slice none 0 0, .int .i64 2]) := by
  refine enterF (M := View.of w) Tryd.func27 rfl rfl rfl rfl (View.le.refl _) ?_
  have h1 := fun w' => state_ok w' (c := c) hd hp a
  have h2 := fun w' => node_spec w' (d := d) (by omega) x
  rw [decide_eq_false hx] at h2
  repeat' first
    | apply cw_seq
    | (refine cw_region_id 0 ?_; (apply ol_val; exact rfl; first | (apply s_boxN; exact rfl; intro bk3) | (apply s_box1; exact rfl; exact rfl; intro bk3)); (apply ol_as; exact rfl; exact rfl); (apply ol_as; exact rfl; exact rfl); (apply ol_nil))
    | (refine cw_region_id 1 ?_; (apply ol_mv; exact rfl; exact rfl); (apply ol_val; exact rfl; apply s_callv; exact rfl; exact gf_39; (intro w' hw'; exact h1 w')); (apply ol_mv; exact rfl; exact rfl); (apply ol_ex; exact rfl; exact rfl; exact rfl); (apply ol_ex; exact rfl; exact rfl; exact rfl); (apply ol_as; exact rfl; exact rfl); (apply ol_as; exact rfl; exact rfl); (apply ol_nil))
    | (refine cw_region_id 2 ?_; (apply ol_mv; exact rfl; exact rfl); (apply ol_val; exact rfl; apply stp_pur; first | (apply s_not_t; exact rfl; (first | exact rfl | assumption)) | (apply s_not_f; exact rfl; (first | exact rfl | assumption)) | (apply s_not; exact rfl)); (apply ol_as; exact rfl; exact rfl); (apply ol_nil))
    | (refine cw_region_id 3 ?_; (apply ol_as; exact rfl; exact rfl); (apply ol_as; exact rfl; exact rfl); (apply ol_nil))
    | (refine cw_region_id 4 ?_; (apply ol_mv; exact rfl; exact rfl); (apply ol_ldN; exact rfl; exact rfl; exact rfl; exact sz_32; (apply RdN.own; (focus ((repeat constructor); done)); (focus ((repeat (first | exact rfl | constructor)); done)))); (apply ol_val; exact rfl; apply s_callv; exact rfl; exact gf_45; (intro w' hw'; exact h2 w')); (apply ol_val; exact rfl; apply stp_pur; first | (apply s_not_t; exact rfl; (first | exact rfl | assumption)) | (apply s_not_f; exact rfl; (first | exact rfl | assumption)) | (apply s_not; exact rfl)); (apply ol_as; exact rfl; exact rfl); (apply ol_nil))
    | (refine cw_region_id 5 ?_; (apply ol_as; exact rfl; exact rfl); (apply ol_as; exact rfl; exact rfl); (apply ol_nil))
    | (refine cw_region_id 6 ?_; (apply ol_mv; exact rfl; exact rfl); (apply ol_mv; exact rfl; exact rfl); (apply ol_ldN; exact rfl; exact rfl; exact rfl; exact sz_32; (apply RdN.own; (focus ((repeat constructor); done)); (focus ((repeat (first | exact rfl | constructor)); done)))))
    | (refine cw_region_id 7 ?_; (apply ol_as; exact rfl; exact rfl); (apply ol_as; exact rfl; exact rfl); (apply ol_nil))
    | (refine cw_region_id 8 ?_; (apply ol_mv; exact rfl; exact rfl); (apply ol_mv; exact rfl; exact rfl); (apply ol_ldN; exact rfl; exact rfl; exact rfl; exact sz_32; (apply RdN.own; (focus ((repeat constructor); done)); (focus ((repeat (first | exact rfl | constructor)); done)))))
    | (apply cw_cond_true; exact rfl; (first | exact rfl | assumption))
    | (apply cw_cond_false; exact rfl; (first | exact rfl | assumption))
    | apply cw_skip
    | apply cw_ret
    | apply cw_block
    | apply cw_exit
  refine ends [] (RVal.tmp rfl (RVal.tmp rfl RVal.nil)) Pick.nil ?_
  rfl
theorem Mark_twice {M : View} {w : World} (hM : View.le M (View.of w)) {d l i : Nat} (hd : d ≤ 5) (hl : l ≤ d) (hi : i < 2 ^ l) {p : List Bool} {n c : Nat} (hn : p.length = n) (hp : n = 2 ^ d) (hc : n ≤ c) {a : Option Addr} {b o : Nat} (s : SlA M eB 1 a p b o) (hf : freeN p d l i = false) :
    FnC Tryd.prog 27 [.slice a n c, .agg [.int .i64 l, .int .i64 i].toArray] w (fun v _ => v = .tuple #[.slice none 0 0, .int .i64 8]) := by
  refine enterF (M := M) Tryd.func27 rfl rfl rfl rfl hM ?_
  have h1 := fun w' => state_ok w' (c := c) hd hp a
  have h2 := fun w' => node_spec w' (d := d) (by omega) ⟨(l : Int), (i : Int)⟩
  rw [decide_eq_true (nodeP_of hl hi)] at h2
  have h3 := fun (w' : World) (hw' : View.le M (View.of w')) => nfree_spec (c := c) hw' hd hl hi hn hp hc s
  rw [hf] at h3
  repeat' first
    | apply cw_seq
    | (refine cw_region_id 0 ?_; (apply ol_val; exact rfl; first | (apply s_boxN; exact rfl; intro bk3) | (apply s_box1; exact rfl; exact rfl; intro bk3)); (apply ol_as; exact rfl; exact rfl); (apply ol_as; exact rfl; exact rfl); (apply ol_nil))
    | (refine cw_region_id 1 ?_; (apply ol_mv; exact rfl; exact rfl); (apply ol_val; exact rfl; apply s_callv; exact rfl; exact gf_39; (intro w' hw'; exact h1 w')); (apply ol_mv; exact rfl; exact rfl); (apply ol_ex; exact rfl; exact rfl; exact rfl); (apply ol_ex; exact rfl; exact rfl; exact rfl); (apply ol_as; exact rfl; exact rfl); (apply ol_as; exact rfl; exact rfl); (apply ol_nil))
    | (refine cw_region_id 2 ?_; (apply ol_mv; exact rfl; exact rfl); (apply ol_val; exact rfl; apply stp_pur; first | (apply s_not_t; exact rfl; (first | exact rfl | assumption)) | (apply s_not_f; exact rfl; (first | exact rfl | assumption)) | (apply s_not; exact rfl)); (apply ol_as; exact rfl; exact rfl); (apply ol_nil))
    | (refine cw_region_id 3 ?_; (apply ol_as; exact rfl; exact rfl); (apply ol_as; exact rfl; exact rfl); (apply ol_nil))
    | (refine cw_region_id 4 ?_; (apply ol_mv; exact rfl; exact rfl); (apply ol_ldN; exact rfl; exact rfl; exact rfl; exact sz_32; (apply RdN.own; (focus ((repeat constructor); done)); (focus ((repeat (first | exact rfl | constructor)); done)))); (apply ol_val; exact rfl; apply s_callv; exact rfl; exact gf_45; (intro w' hw'; exact h2 w')); (apply ol_val; exact rfl; apply stp_pur; first | (apply s_not_t; exact rfl; (first | exact rfl | assumption)) | (apply s_not_f; exact rfl; (first | exact rfl | assumption)) | (apply s_not; exact rfl)); (apply ol_as; exact rfl; exact rfl); (apply ol_nil))
    | (refine cw_region_id 5 ?_; (apply ol_as; exact rfl; exact rfl); (apply ol_as; exact rfl; exact rfl); (apply ol_nil))
    | (refine cw_region_id 6 ?_; (apply ol_mv; exact rfl; exact rfl); (apply ol_mv; exact rfl; exact rfl); (apply ol_ldN; exact rfl; exact rfl; exact rfl; exact sz_32; (apply RdN.own; (focus ((repeat constructor); done)); (focus ((repeat (first | exact rfl | constructor)); done)))); (apply ol_val; exact rfl; apply s_callv; exact rfl; exact gf_46; (intro w' hw'; exact h3 w' hw'.le)); (apply ol_val; exact rfl; apply stp_pur; first | (apply s_not_t; exact rfl; (first | exact rfl | assumption)) | (apply s_not_f; exact rfl; (first | exact rfl | assumption)) | (apply s_not; exact rfl)); (apply ol_as; exact rfl; exact rfl); (apply ol_nil))
    | (refine cw_region_id 7 ?_; (apply ol_as; exact rfl; exact rfl); (apply ol_as; exact rfl; exact rfl); (apply ol_nil))
    | (refine cw_region_id 8 ?_; (apply ol_mv; exact rfl; exact rfl); (apply ol_mv; exact rfl; exact rfl); (apply ol_ldN; exact rfl; exact rfl; exact rfl; exact sz_32; (apply RdN.own; (focus ((repeat constructor); done)); (focus ((repeat (first | exact rfl | constructor)); done)))))
    | (apply cw_cond_true; exact rfl; (first | exact rfl | assumption))
    | (apply cw_cond_false; exact rfl; (first | exact rfl | assumption))
    | apply cw_skip
    | apply cw_ret
    | apply cw_block
    | apply cw_exit
  refine ends [] (RVal.tmp rfl (RVal.tmp rfl RVal.nil)) Pick.nil ?_
  rfl
/-- A row of flags and an error number. -/
def RowErr (p : List Bool) (n : Nat) (v : Value) (new : List OB) : Prop :=
  ∃ q cap sp, v = .tuple #[.slice (some ⟨q, 0, none⟩) n cap, .int .i64 0] ∧ new = [⟨some q, flat eB p ++ sp, 4⟩] ∧ n ≤ cap
theorem Mark_ok {M : View} {w : World} (hM : View.le M (View.of w)) {d l i : Nat} (hd : d ≤ 5) (hl : l ≤ d) (hi : i < 2 ^ l) {p : List Bool} {n c : Nat} (hn : p.length = n) (hp : n = 2 ^ d) (hc : n ≤ c) {a : Option Addr} {b o : Nat} (s : SlA M eB 1 a p b o) (hf : freeN p d l i = true) :
    FnC Tryd.prog 27 [.slice a n c, .agg [.int .i64 l, .int .i64 i].toArray] w (RowErr (markN p d l i) n) := by
  refine enterF (M := M) Tryd.func27 rfl rfl rfl rfl hM ?_
  have h1 := fun w' => state_ok w' (c := c) hd hp a
  have h2 := fun w' => node_spec w' (d := d) (by omega) ⟨(l : Int), (i : Int)⟩
  rw [decide_eq_true (nodeP_of hl hi)] at h2
  have h3 := fun (w' : World) (hw' : View.le M (View.of w')) => nfree_spec (c := c) hw' hd hl hi hn hp hc s
  rw [hf] at h3
  have h4 := fun (w' : World) (hw' : View.le M (View.of w')) => mark_spec (c := c) hw' hd hl hi hn hp s
  have hml := mark_length (s := p) (hn.trans hp) hl hi
  have h0 : 1 ≤ n := by rw [hp]; exact Nat.one_le_two_pow
  generalize markN p d l i = X at *
  repeat' first
    | apply cw_seq
    | (refine cw_region_id 0 ?_; (apply ol_val; exact rfl; first | (apply s_boxN; exact rfl; intro bk3) | (apply s_box1; exact rfl; exact rfl; intro bk3)); (apply ol_as; exact rfl; exact rfl); (apply ol_as; exact rfl; exact rfl); (apply ol_nil))
    | (refine cw_region_id 1 ?_; (apply ol_mv; exact rfl; exact rfl); (apply ol_val; exact rfl; apply s_callv; exact rfl; exact gf_39; (intro w' hw'; exact h1 w')); (apply ol_mv; exact rfl; exact rfl); (apply ol_ex; exact rfl; exact rfl; exact rfl); (apply ol_ex; exact rfl; exact rfl; exact rfl); (apply ol_as; exact rfl; exact rfl); (apply ol_as; exact rfl; exact rfl); (apply ol_nil))
    | (refine cw_region_id 2 ?_; (apply ol_mv; exact rfl; exact rfl); (apply ol_val; exact rfl; apply stp_pur; first | (apply s_not_t; exact rfl; (first | exact rfl | assumption)) | (apply s_not_f; exact rfl; (first | exact rfl | assumption)) | (apply s_not; exact rfl)); (apply ol_as; exact rfl; exact rfl); (apply ol_nil))
    | (refine cw_region_id 3 ?_; (apply ol_as; exact rfl; exact rfl); (apply ol_as; exact rfl; exact rfl); (apply ol_nil))
    | (refine cw_region_id 4 ?_; (apply ol_mv; exact rfl; exact rfl); (apply ol_ldN; exact rfl; exact rfl; exact rfl; exact sz_32; (apply RdN.own; (focus ((repeat constructor); done)); (focus ((repeat (first | exact rfl | constructor)); done)))); (apply ol_val; exact rfl; apply s_callv; exact rfl; exact gf_45; (intro w' hw'; exact h2 w')); (apply ol_val; exact rfl; apply stp_pur; first | (apply s_not_t; exact rfl; (first | exact rfl | assumption)) | (apply s_not_f; exact rfl; (first | exact rfl | assumption)) | (apply s_not; exact rfl)); (apply ol_as; exact rfl; exact rfl); (apply ol_nil))
    | (refine cw_region_id 5 ?_; (apply ol_as; exact rfl; exact rfl); (apply ol_as; exact rfl; exact rfl); (apply ol_nil))
    | (refine cw_region_id 6 ?_; (apply ol_mv; exact rfl; exact rfl); (apply ol_mv; exact rfl; exact rfl); (apply ol_ldN; exact rfl; exact rfl; exact rfl; exact sz_32; (apply RdN.own; (focus ((repeat constructor); done)); (focus ((repeat (first | exact rfl | constructor)); done)))); (apply ol_val; exact rfl; apply s_callv; exact rfl; exact gf_46; (intro w' hw'; exact h3 w' hw'.le)); (apply ol_val; exact rfl; apply stp_pur; first | (apply s_not_t; exact rfl; (first | exact rfl | assumption)) | (apply s_not_f; exact rfl; (first | exact rfl | assumption)) | (apply s_not; exact rfl)); (apply ol_as; exact rfl; exact rfl); (apply ol_nil))
    | (refine cw_region_id 7 ?_; (apply ol_as; exact rfl; exact rfl); (apply ol_as; exact rfl; exact rfl); (apply ol_nil))
    | (refine cw_region_id 8 ?_; (apply ol_mv; exact rfl; exact rfl); (apply ol_mv; exact rfl; exact rfl); (apply ol_ldN; exact rfl; exact rfl; exact rfl; exact sz_32; (apply RdN.own; (focus ((repeat constructor); done)); (focus ((repeat (first | exact rfl | constructor)); done)))); (apply ol_val; exact rfl; apply s_call; exact rfl; exact gf_41; (intro w' hw'; exact h4 w' hw'.le); ((intro v new h; obtain ⟨r1, A1, c1, s1, rfl, rfl, so1⟩ := h; obtain ⟨q, rfl⟩ : ∃ q, r1 = some q := ⟨_, some_ref so1 (by omega)⟩))); (apply ol_as; exact rfl; exact rfl); (apply ol_as; exact rfl; exact rfl); (apply ol_nil))
    | (apply cw_cond_true; exact rfl; (first | exact rfl | assumption))
    | (apply cw_cond_false; exact rfl; (first | exact rfl | assumption))
    | apply cw_skip
    | apply cw_ret
    | apply cw_block
    | apply cw_exit
  refine ends [⟨some q, flat eB X ++ s1, 4⟩] (RVal.tmp rfl (RVal.tmp rfl RVal.nil)) (by (repeat (first | exact Pick.nil | (apply Pick.cons; (focus ((repeat (first | exact Spl.here | apply Spl.there)); done))) | exact Pick.refl))) ?_
  refine ⟨q, c1, s1, ?_, rfl, ?_⟩
  · rw [hp, ← hml]; rfl
  · have := so1.hle; omega

def lRes : Option (Nat × Nat) → Value
  | none => .tuple #[.agg [.int .i64 0, .int .i64 0].toArray, .int .i64 7]
  | some (l, i) => .tuple #[.agg [.int .i64 (l : Nat), .int .i64 (i : Nat)].toArray, .int .i64 0]
theorem Largest_arg (w : World) {n c : Nat} (hn : n ≤ 100) (h : ∀ d, d ≤ 5 → n ≠ 2 ^ d) (a : Option Addr) :
    FnC Tryd.prog 24 [.slice a n c] w (fun v _ => v = .tuple #[.agg [.int .i64 0, .int .i64 0].toArray, .int .i64 1]) := by
  refine enterF (M := View.of w) Tryd.func24 rfl rfl rfl rfl (View.le.refl _) ?_
  repeat' first
    | apply cw_seq
    | (refine cw_region_id 0 ?_; (apply ol_val; exact rfl; apply s_alloc; exact zb_32; (focus ((repeat constructor); done)); intro bk2); (apply ol_as; exact rfl; exact rfl); (apply ol_nil))
    | (refine cw_region_id 1 ?_; (apply ol_mv; exact rfl; exact rfl); (apply ol_val; exact rfl; apply s_call; exact rfl; exact gf_39; (intro w' hw'; exact state_no w' hn h a); ((intro v new hv; obtain ⟨⟨j, rfl⟩, rfl⟩ := hv))); (apply ol_mv; exact rfl; exact rfl); (apply ol_ex; exact rfl; exact rfl; exact rfl); (apply ol_ex; exact rfl; exact rfl; exact rfl); (apply ol_as; exact rfl; exact rfl); (apply ol_as; exact rfl; exact rfl); (apply ol_nil))
    | (refine cw_region_id 2 ?_; (apply ol_mv; exact rfl; exact rfl); (apply ol_val; exact rfl; apply stp_pur; first | (apply s_not_t; exact rfl; (first | exact rfl | assumption)) | (apply s_not_f; exact rfl; (first | exact rfl | assumption)) | (apply s_not; exact rfl)); (apply ol_nil))
    | (refine cw_region_id 3 ?_; (apply ol_val; exact rfl; apply stp_pur; apply s_buildS; exact rfl; exact fs_32; exact zb_32; (focus ((repeat (first | exact rfl | constructor)); done))); (apply ol_eff; apply s_storeN; exact rfl; exact rfl; exact sz_32; exact rfl; exact rfl; (focus ((repeat constructor); done)); (focus ((repeat constructor); done))); (apply ol_as; exact rfl; exact rfl); (apply ol_nil))
    | (refine cw_region_id 4 ?_; (apply ol_mv; exact rfl; exact rfl); (apply ol_mv; exact rfl; exact rfl); (apply ol_mv; exact rfl; exact rfl); (apply ol_val; exact rfl; apply stp_pur; apply s_len; exact rfl; exact el_22))
    | (refine cw_region_id 5 ?_; (apply ol_mv; exact rfl; exact rfl); (apply ol_val; exact rfl; apply stp_pur; first | (apply s_not_t; exact rfl; (first | exact rfl | assumption)) | (apply s_not_f; exact rfl; (first | exact rfl | assumption)) | (apply s_not; exact rfl)); (apply ol_nil))
    | (refine cw_region_id 6 ?_; (apply ol_val; exact rfl; apply stp_pur; apply s_buildS; exact rfl; exact fs_32; exact zb_32; (focus ((repeat (first | exact rfl | constructor)); done))); (apply ol_eff; apply s_storeN; exact rfl; exact rfl; exact sz_32; exact rfl; exact rfl; (focus ((repeat constructor); done)); (focus ((repeat constructor); done))); (apply ol_as; exact rfl; exact rfl); (apply ol_nil))
    | (refine cw_region_id 7 ?_; (apply ol_ldN; exact rfl; exact rfl; exact rfl; exact sz_32; (apply RdN.own; (focus ((repeat constructor); done)); (focus ((repeat (first | exact rfl | constructor)); done)))); (apply ol_eff; apply s_storeN; exact rfl; exact rfl; exact sz_32; exact rfl; exact rfl; (focus ((repeat constructor); done)); (focus ((repeat constructor); done))); (apply ol_as; exact rfl; exact rfl); (apply ol_nil))
    | (apply cw_cond_true; exact rfl; (first | exact rfl | assumption))
    | (apply cw_cond_false; exact rfl; (first | exact rfl | assumption))
    | apply cw_skip
    | apply cw_ret
    | apply cw_block
    | apply cw_exit
  refine ends [] (RVal.cellN rfl rfl rfl (RdN.own (by (repeat (first | exact Has.here | apply Has.there))) (GetN.cons rfl (GetN.cons rfl GetN.nil))) (RVal.tmp rfl RVal.nil)) Pick.nil ?_
  rfl
theorem Largest_spec {M : View} {w : World} (hM : View.le M (View.of w)) {d : Nat} (hd : d ≤ 5) {p : List Bool} {n c : Nat} (hn : p.length = n) (hp : n = 2 ^ d) (hc : n ≤ c) {a : Option Addr} {b o : Nat} (s : SlA M eB 1 a p b o) :
    FnC Tryd.prog 24 [.slice a n c] w (fun v _ => v = lRes (greatest p d n)) := by
  refine enterF (M := M) Tryd.func24 rfl rfl rfl rfl hM ?_
  have h1 := fun w' => state_ok w' (c := c) hd hp a
  have h2 := fun (w' : World) (hw' : View.le M (View.of w')) => largest_spec (c := c) hw' hd hn hp hc s n
  cases hg : greatest p d n with
  | none =>
    rw [hg] at h2
    simp only [gRes] at h2
    repeat' first
      | apply cw_seq
      | (refine cw_region_id 0 ?_; (apply ol_val; exact rfl; apply s_alloc; exact zb_32; (focus ((repeat constructor); done)); intro bk2); (apply ol_as; exact rfl; exact rfl); (apply ol_nil))
      | (refine cw_region_id 1 ?_; (apply ol_mv; exact rfl; exact rfl); (apply ol_val; exact rfl; apply s_callv; exact rfl; exact gf_39; (intro w' hw'; exact h1 w')); (apply ol_mv; exact rfl; exact rfl); (apply ol_ex; exact rfl; exact rfl; exact rfl); (apply ol_ex; exact rfl; exact rfl; exact rfl); (apply ol_as; exact rfl; exact rfl); (apply ol_as; exact rfl; exact rfl); (apply ol_nil))
      | (refine cw_region_id 2 ?_; (apply ol_mv; exact rfl; exact rfl); (apply ol_val; exact rfl; apply stp_pur; first | (apply s_not_t; exact rfl; (first | exact rfl | assumption)) | (apply s_not_f; exact rfl; (first | exact rfl | assumption)) | (apply s_not; exact rfl)); (apply ol_nil))
      | (refine cw_region_id 3 ?_; (apply ol_val; exact rfl; apply stp_pur; apply s_buildS; exact rfl; exact fs_32; exact zb_32; (focus ((repeat (first | exact rfl | constructor)); done))); (apply ol_eff; apply s_storeN; exact rfl; exact rfl; exact sz_32; exact rfl; exact rfl; (focus ((repeat constructor); done)); (focus ((repeat constructor); done))); (apply ol_as; exact rfl; exact rfl); (apply ol_nil))
      | (refine cw_region_id 4 ?_; (apply ol_mv; exact rfl; exact rfl); (apply ol_mv; exact rfl; exact rfl); (apply ol_mv; exact rfl; exact rfl); (apply ol_val; exact rfl; apply stp_pur; apply s_len; exact rfl; exact el_22); (apply ol_val; exact rfl; apply s_callv; exact rfl; exact gf_40; (intro w' hw'; exact h2 w' hw'.le)); (apply ol_mv; exact rfl; exact rfl); (apply ol_ex; exact rfl; exact rfl; exact rfl); (apply ol_ex; exact rfl; exact rfl; exact rfl); (apply ol_val; exact rfl; apply s_alloc; exact zb_32; (focus ((repeat constructor); done)); intro bk6); (apply ol_eff; apply s_storeN; exact rfl; exact rfl; exact sz_32; exact rfl; exact rfl; (focus ((repeat constructor); done)); (focus ((repeat constructor); done))); (apply ol_as; exact rfl; exact rfl); (apply ol_nil))
      | (refine cw_region_id 5 ?_; (apply ol_mv; exact rfl; exact rfl); (apply ol_val; exact rfl; apply stp_pur; first | (apply s_not_t; exact rfl; (first | exact rfl | assumption)) | (apply s_not_f; exact rfl; (first | exact rfl | assumption)) | (apply s_not; exact rfl)); (apply ol_nil))
      | (refine cw_region_id 6 ?_; (apply ol_val; exact rfl; apply stp_pur; apply s_buildS; exact rfl; exact fs_32; exact zb_32; (focus ((repeat (first | exact rfl | constructor)); done))); (apply ol_eff; apply s_storeN; exact rfl; exact rfl; exact sz_32; exact rfl; exact rfl; (focus ((repeat constructor); done)); (focus ((repeat constructor); done))); (apply ol_as; exact rfl; exact rfl); (apply ol_nil))
      | (refine cw_region_id 7 ?_; (apply ol_ldN; exact rfl; exact rfl; exact rfl; exact sz_32; (apply RdN.own; (focus ((repeat constructor); done)); (focus ((repeat (first | exact rfl | constructor)); done)))); (apply ol_eff; apply s_storeN; exact rfl; exact rfl; exact sz_32; exact rfl; exact rfl; (focus ((repeat constructor); done)); (focus ((repeat constructor); done))); (apply ol_as; exact rfl; exact rfl); (apply ol_nil))
      | (apply cw_cond_true; exact rfl; (first | exact rfl | assumption))
      | (apply cw_cond_false; exact rfl; (first | exact rfl | assumption))
      | apply cw_skip
      | apply cw_ret
      | apply cw_block
      | apply cw_exit
    refine ends [] (RVal.cellN rfl rfl rfl (RdN.own (by (repeat (first | exact Has.here | apply Has.there))) (GetN.cons rfl (GetN.cons rfl GetN.nil))) (RVal.tmp rfl RVal.nil)) Pick.nil ?_
    rfl
  | some x =>
    obtain ⟨l, i⟩ := x
    rw [hg] at h2
    simp only [gRes] at h2
    repeat' first
      | apply cw_seq
      | (refine cw_region_id 0 ?_; (apply ol_val; exact rfl; apply s_alloc; exact zb_32; (focus ((repeat constructor); done)); intro bk2); (apply ol_as; exact rfl; exact rfl); (apply ol_nil))
      | (refine cw_region_id 1 ?_; (apply ol_mv; exact rfl; exact rfl); (apply ol_val; exact rfl; apply s_callv; exact rfl; exact gf_39; (intro w' hw'; exact h1 w')); (apply ol_mv; exact rfl; exact rfl); (apply ol_ex; exact rfl; exact rfl; exact rfl); (apply ol_ex; exact rfl; exact rfl; exact rfl); (apply ol_as; exact rfl; exact rfl); (apply ol_as; exact rfl; exact rfl); (apply ol_nil))
      | (refine cw_region_id 2 ?_; (apply ol_mv; exact rfl; exact rfl); (apply ol_val; exact rfl; apply stp_pur; first | (apply s_not_t; exact rfl; (first | exact rfl | assumption)) | (apply s_not_f; exact rfl; (first | exact rfl | assumption)) | (apply s_not; exact rfl)); (apply ol_nil))
      | (refine cw_region_id 3 ?_; (apply ol_val; exact rfl; apply stp_pur; apply s_buildS; exact rfl; exact fs_32; exact zb_32; (focus ((repeat (first | exact rfl | constructor)); done))); (apply ol_eff; apply s_storeN; exact rfl; exact rfl; exact sz_32; exact rfl; exact rfl; (focus ((repeat constructor); done)); (focus ((repeat constructor); done))); (apply ol_as; exact rfl; exact rfl); (apply ol_nil))
      | (refine cw_region_id 4 ?_; (apply ol_mv; exact rfl; exact rfl); (apply ol_mv; exact rfl; exact rfl); (apply ol_mv; exact rfl; exact rfl); (apply ol_val; exact rfl; apply stp_pur; apply s_len; exact rfl; exact el_22); (apply ol_val; exact rfl; apply s_callv; exact rfl; exact gf_40; (intro w' hw'; exact h2 w' hw'.le)); (apply ol_mv; exact rfl; exact rfl); (apply ol_ex; exact rfl; exact rfl; exact rfl); (apply ol_ex; exact rfl; exact rfl; exact rfl); (apply ol_val; exact rfl; apply s_alloc; exact zb_32; (focus ((repeat constructor); done)); intro bk6); (apply ol_eff; apply s_storeN; exact rfl; exact rfl; exact sz_32; exact rfl; exact rfl; (focus ((repeat constructor); done)); (focus ((repeat constructor); done))); (apply ol_as; exact rfl; exact rfl); (apply ol_nil))
      | (refine cw_region_id 5 ?_; (apply ol_mv; exact rfl; exact rfl); (apply ol_val; exact rfl; apply stp_pur; first | (apply s_not_t; exact rfl; (first | exact rfl | assumption)) | (apply s_not_f; exact rfl; (first | exact rfl | assumption)) | (apply s_not; exact rfl)); (apply ol_nil))
      | (refine cw_region_id 6 ?_; (apply ol_val; exact rfl; apply stp_pur; apply s_buildS; exact rfl; exact fs_32; exact zb_32; (focus ((repeat (first | exact rfl | constructor)); done))); (apply ol_eff; apply s_storeN; exact rfl; exact rfl; exact sz_32; exact rfl; exact rfl; (focus ((repeat constructor); done)); (focus ((repeat constructor); done))); (apply ol_as; exact rfl; exact rfl); (apply ol_nil))
      | (refine cw_region_id 7 ?_; (apply ol_ldN; exact rfl; exact rfl; exact rfl; exact sz_32; (apply RdN.own; (focus ((repeat constructor); done)); (focus ((repeat (first | exact rfl | constructor)); done)))); (apply ol_eff; apply s_storeN; exact rfl; exact rfl; exact sz_32; exact rfl; exact rfl; (focus ((repeat constructor); done)); (focus ((repeat constructor); done))); (apply ol_as; exact rfl; exact rfl); (apply ol_nil))
      | (apply cw_cond_true; exact rfl; (first | exact rfl | assumption))
      | (apply cw_cond_false; exact rfl; (first | exact rfl | assumption))
      | apply cw_skip
      | apply cw_ret
      | apply cw_block
      | apply cw_exit
    refine ends [] (RVal.cellN rfl rfl rfl (RdN.own (by (repeat (first | exact Has.here | apply Has.there))) (GetN.cons rfl (GetN.cons rfl GetN.nil))) (RVal.tmp rfl RVal.nil)) Pick.nil ?_
    rfl

structure CSt where
  V : View
  out : List (Nat × Nat)
  f : Nat
  S : List Bool
  n : Nat
  a : Option Addr
  b : Nat
  o : Nat
  c : Nat
  r : Option Nat
  cp : Nat
  sp : List Value
structure CInv (M : View) (d n0 : Nat) (L0 : List (Nat × Nat)) (s : CSt) : Prop where
  vw : View.le M s.V
  sl : SlA s.V eB 1 s.a s.S s.b s.o
  len : s.S.length = 2 ^ d
  cap : 2 ^ d ≤ s.c
  cnt : s.n ≤ cnt s.S
  fuel : s.n ≤ s.f
  cov : s.out ++ cov d s.f s.S s.n = L0
  le : s.out.length + s.n ≤ n0
  so : SO s.r s.out.length s.cp (flat C2.enc (s.out.map toC2)) s.sp 2
/-- A row of nodes and an error number. -/
def NodErr (L : List (Nat × Nat)) (v : Value) (new : List OB) : Prop :=
  ∃ r cap sp, v = .tuple #[.slice (base r none) L.length cap, .int .i64 0] ∧ new = [⟨r, flat C2.enc (L.map toC2) ++ sp, 32⟩] ∧ (r = none → L = [])
theorem Cover_arg (w : World) {n c : Nat} (hn : n ≤ 100) (h : ∀ d, d ≤ 5 → n ≠ 2 ^ d) (a : Option Addr) (m : Int) :
    FnC Tryd.prog 11 [.slice a n c, .int .i64 m] w (fun v _ => v = .tuple #[.slice none 0 0, .int .i64 1]) := by
  refine enterF (M := View.of w) Tryd.func11 rfl rfl rfl rfl (View.le.refl _) ?_
  repeat' first
    | apply cw_seq
    | (refine cw_region_id 0 ?_; (apply ol_as; exact rfl; exact rfl); (apply ol_as; exact rfl; exact rfl); (apply ol_nil))
    | (refine cw_region_id 1 ?_; (apply ol_mv; exact rfl; exact rfl); (apply ol_val; exact rfl; apply s_call; exact rfl; exact gf_39; (intro w' hw'; exact state_no w' hn h a); ((intro v new hv; obtain ⟨⟨j, rfl⟩, rfl⟩ := hv))); (apply ol_mv; exact rfl; exact rfl); (apply ol_ex; exact rfl; exact rfl; exact rfl); (apply ol_ex; exact rfl; exact rfl; exact rfl); (apply ol_as; exact rfl; exact rfl); (apply ol_as; exact rfl; exact rfl); (apply ol_nil))
    | (refine cw_region_id 2 ?_; (apply ol_mv; exact rfl; exact rfl); (apply ol_val; exact rfl; apply stp_pur; first | (apply s_not_t; exact rfl; (first | exact rfl | assumption)) | (apply s_not_f; exact rfl; (first | exact rfl | assumption)) | (apply s_not; exact rfl)); (apply ol_nil))
    | (refine cw_region_id 3 ?_; (apply ol_as; exact rfl; exact rfl); (apply ol_as; exact rfl; exact rfl); (apply ol_nil))
    | (refine cw_region_id 4 ?_; (apply ol_mv; exact rfl; exact rfl); (apply ol_val; exact rfl; apply stp_cmp; apply s_lss; exact rfl; exact rfl; all_goals (intro hc21; try (exfalso; (first | exact hc21 rfl | omega)))); all_goals (apply ol_nil))
    | (refine cw_region_id 5 ?_; (apply ol_as; exact rfl; exact rfl); (apply ol_as; exact rfl; exact rfl); (apply ol_nil))
    | (refine cw_region_id 6 ?_; (apply ol_mv; exact rfl; exact rfl))
    | (refine cw_region_id 7 ?_; (apply ol_mv; exact rfl; exact rfl); (apply ol_mv; exact rfl; exact rfl); (apply ol_val; exact rfl; apply stp_cmp; apply s_lss; exact rfl; exact rfl; all_goals (intro hc29; try (exfalso; (first | exact hc29 rfl | omega)))); all_goals (apply ol_nil))
    | (refine cw_region_id 8 ?_; (apply ol_as; exact rfl; exact rfl); (apply ol_as; exact rfl; exact rfl); (apply ol_nil))
    | (refine cw_region_id 9 ?_; (apply ol_as; exact rfl; exact rfl); (apply ol_nil))
    | (apply cw_cond_true; exact rfl; (first | exact rfl | assumption))
    | (apply cw_cond_false; exact rfl; (first | exact rfl | assumption))
    | apply cw_skip
    | apply cw_ret
    | apply cw_block
    | apply cw_exit
  refine ends [] (RVal.tmp rfl (RVal.tmp rfl RVal.nil)) Pick.nil ?_
  rfl
theorem Cover_range (w : World) {d n c : Nat} (hd : d ≤ 5) (hp : n = 2 ^ d) (a : Option Addr) {m : Int} (hm : m < 0) :
    FnC Tryd.prog 11 [.slice a n c, .int .i64 m] w (fun v _ => v = .tuple #[.slice none 0 0, .int .i64 2]) := by
  refine enterF (M := View.of w) Tryd.func11 rfl rfl rfl rfl (View.le.refl _) ?_
  have h1 := fun w' => state_ok w' (c := c) hd hp a
  repeat' first
    | apply cw_seq
    | (refine cw_region_id 0 ?_; (apply ol_as; exact rfl; exact rfl); (apply ol_as; exact rfl; exact rfl); (apply ol_nil))
    | (refine cw_region_id 1 ?_; (apply ol_mv; exact rfl; exact rfl); (apply ol_val; exact rfl; apply s_callv; exact rfl; exact gf_39; (intro w' hw'; exact h1 w')); (apply ol_mv; exact rfl; exact rfl); (apply ol_ex; exact rfl; exact rfl; exact rfl); (apply ol_ex; exact rfl; exact rfl; exact rfl); (apply ol_as; exact rfl; exact rfl); (apply ol_as; exact rfl; exact rfl); (apply ol_nil))
    | (refine cw_region_id 2 ?_; (apply ol_mv; exact rfl; exact rfl); (apply ol_val; exact rfl; apply stp_pur; first | (apply s_not_t; exact rfl; (first | exact rfl | assumption)) | (apply s_not_f; exact rfl; (first | exact rfl | assumption)) | (apply s_not; exact rfl)); (apply ol_nil))
    | (refine cw_region_id 3 ?_; (apply ol_as; exact rfl; exact rfl); (apply ol_as; exact rfl; exact rfl); (apply ol_nil))
    | (refine cw_region_id 4 ?_; (apply ol_mv; exact rfl; exact rfl); (apply ol_val; exact rfl; apply stp_cmp; apply s_lss; exact rfl; exact rfl; all_goals (intro hc21; try (exfalso; (first | exact hc21 rfl | omega)))); all_goals (apply ol_nil))
    | (refine cw_region_id 5 ?_; (apply ol_as; exact rfl; exact rfl); (apply ol_as; exact rfl; exact rfl); (apply ol_nil))
    | (refine cw_region_id 6 ?_; (apply ol_mv; exact rfl; exact rfl))
    | (refine cw_region_id 7 ?_; (apply ol_mv; exact rfl; exact rfl); (apply ol_mv; exact rfl; exact rfl); (apply ol_val; exact rfl; apply stp_cmp; apply s_lss; exact rfl; exact rfl; all_goals (intro hc29; try (exfalso; (first | exact hc29 rfl | omega)))); all_goals (apply ol_nil))
    | (refine cw_region_id 8 ?_; (apply ol_as; exact rfl; exact rfl); (apply ol_as; exact rfl; exact rfl); (apply ol_nil))
    | (refine cw_region_id 9 ?_; (apply ol_as; exact rfl; exact rfl); (apply ol_nil))
    | (apply cw_cond_true; exact rfl; (first | exact rfl | assumption))
    | (apply cw_cond_false; exact rfl; (first | exact rfl | assumption))
    | apply cw_skip
    | apply cw_ret
    | apply cw_block
    | apply cw_exit
  refine ends [] (RVal.tmp rfl (RVal.tmp rfl RVal.nil)) Pick.nil ?_
  rfl
theorem Cover_funds {M : View} {w : World} (hM : View.le M (View.of w)) {d : Nat} (hd : d ≤ 5) {p : List Bool} {n c : Nat} (hn : p.length = n) (hp : n = 2 ^ d) {a : Option Addr} {b o : Nat} (s : SlA M eB 1 a p b o) {m : Int} (hm0 : 0 ≤ m) (hm : (cnt p : Nat) < m) :
    FnC Tryd.prog 11 [.slice a n c, .int .i64 m] w (fun v _ => v = .tuple #[.slice none 0 0, .int .i64 17]) := by
  refine enterF (M := M) Tryd.func11 rfl rfl rfl rfl hM ?_
  have h1 := fun w' => state_ok w' (c := c) hd hp a
  have h2 := fun (w' : World) (hw' : View.le M (View.of w')) => free_spec (c := c) hw' hd hn hp s
  repeat' first
    | apply cw_seq
    | (refine cw_region_id 0 ?_; (apply ol_as; exact rfl; exact rfl); (apply ol_as; exact rfl; exact rfl); (apply ol_nil))
    | (refine cw_region_id 1 ?_; (apply ol_mv; exact rfl; exact rfl); (apply ol_val; exact rfl; apply s_callv; exact rfl; exact gf_39; (intro w' hw'; exact h1 w')); (apply ol_mv; exact rfl; exact rfl); (apply ol_ex; exact rfl; exact rfl; exact rfl); (apply ol_ex; exact rfl; exact rfl; exact rfl); (apply ol_as; exact rfl; exact rfl); (apply ol_as; exact rfl; exact rfl); (apply ol_nil))
    | (refine cw_region_id 2 ?_; (apply ol_mv; exact rfl; exact rfl); (apply ol_val; exact rfl; apply stp_pur; first | (apply s_not_t; exact rfl; (first | exact rfl | assumption)) | (apply s_not_f; exact rfl; (first | exact rfl | assumption)) | (apply s_not; exact rfl)); (apply ol_nil))
    | (refine cw_region_id 3 ?_; (apply ol_as; exact rfl; exact rfl); (apply ol_as; exact rfl; exact rfl); (apply ol_nil))
    | (refine cw_region_id 4 ?_; (apply ol_mv; exact rfl; exact rfl); (apply ol_val; exact rfl; apply stp_cmp; apply s_lss; exact rfl; exact rfl; all_goals (intro hc21; try (exfalso; (first | exact hc21 rfl | omega)))); all_goals (apply ol_nil))
    | (refine cw_region_id 5 ?_; (apply ol_as; exact rfl; exact rfl); (apply ol_as; exact rfl; exact rfl); (apply ol_nil))
    | (refine cw_region_id 6 ?_; (apply ol_mv; exact rfl; exact rfl); (apply ol_val; exact rfl; apply s_callv; exact rfl; exact gf_23; (intro w' hw'; exact h2 w' hw'.le)); (apply ol_mv; exact rfl; exact rfl); (apply ol_ex; exact rfl; exact rfl; exact rfl); (apply ol_ex; exact rfl; exact rfl; exact rfl); (apply ol_as; exact rfl; exact rfl); (apply ol_as; exact rfl; exact rfl); (apply ol_nil))
    | (refine cw_region_id 7 ?_; (apply ol_mv; exact rfl; exact rfl); (apply ol_mv; exact rfl; exact rfl); (apply ol_val; exact rfl; apply stp_cmp; apply s_lss; exact rfl; exact rfl; all_goals (intro hc29; try (exfalso; (first | exact hc29 rfl | omega)))); all_goals (apply ol_nil))
    | (refine cw_region_id 8 ?_; (apply ol_as; exact rfl; exact rfl); (apply ol_as; exact rfl; exact rfl); (apply ol_nil))
    | (refine cw_region_id 9 ?_; (apply ol_as; exact rfl; exact rfl); (apply ol_nil))
    | (apply cw_cond_true; exact rfl; (first | exact rfl | assumption))
    | (apply cw_cond_false; exact rfl; (first | exact rfl | assumption))
    | apply cw_skip
    | apply cw_ret
    | apply cw_block
    | apply cw_exit
  refine ends [] (RVal.tmp rfl (RVal.tmp rfl RVal.nil)) Pick.nil ?_
  rfl

theorem Cover_spec {M : View} {w : World} (hM : View.le M (View.of w)) {d : Nat} (hd : d ≤ 5) {p : List Bool} {n c : Nat} (hn : p.length = n) (hp : n = 2 ^ d) (hc : n ≤ c) {a : Option Addr} {b o : Nat} (s : SlA M eB 1 a p b o) {m : Nat} (hm : m ≤ cnt p) :
    FnC Tryd.prog 11 [.slice a n c, .int .i64 m] w (NodErr (cov d m p m)) := by
  refine enterF (M := M) Tryd.func11 rfl rfl rfl rfl hM ?_
  have h1 := fun w' => state_ok w' (c := c) hd hp a
  have h2 := fun (w' : World) (hw' : View.le M (View.of w')) => free_spec (c := c) hw' hd hn hp s
  have h32 := pow32 hd
  have hcl := cnt_le p
  generalize hL : cov d m p m = L0 at *
  refine cw_none 32 ?_
  repeat' first
    | apply cw_seq
    | (refine cw_region_id 0 ?_; (apply ol_as; exact rfl; exact rfl); (apply ol_as; exact rfl; exact rfl); (apply ol_nil))
    | (refine cw_region_id 1 ?_; (apply ol_mv; exact rfl; exact rfl); (apply ol_val; exact rfl; apply s_callv; exact rfl; exact gf_39; (intro w' hw'; exact h1 w')); (apply ol_mv; exact rfl; exact rfl); (apply ol_ex; exact rfl; exact rfl; exact rfl); (apply ol_ex; exact rfl; exact rfl; exact rfl); (apply ol_as; exact rfl; exact rfl); (apply ol_as; exact rfl; exact rfl); (apply ol_nil))
    | (refine cw_region_id 2 ?_; (apply ol_mv; exact rfl; exact rfl); (apply ol_val; exact rfl; apply stp_pur; first | (apply s_not_t; exact rfl; (first | exact rfl | assumption)) | (apply s_not_f; exact rfl; (first | exact rfl | assumption)) | (apply s_not; exact rfl)); (apply ol_nil))
    | (refine cw_region_id 3 ?_; (apply ol_as; exact rfl; exact rfl); (apply ol_as; exact rfl; exact rfl); (apply ol_nil))
    | (refine cw_region_id 4 ?_; (apply ol_mv; exact rfl; exact rfl); (apply ol_val; exact rfl; apply stp_cmp; apply s_lss; exact rfl; exact rfl; all_goals (intro hc21; try (exfalso; (first | exact hc21 rfl | omega)))); all_goals (apply ol_nil))
    | (refine cw_region_id 5 ?_; (apply ol_as; exact rfl; exact rfl); (apply ol_as; exact rfl; exact rfl); (apply ol_nil))
    | (refine cw_region_id 6 ?_; (apply ol_mv; exact rfl; exact rfl); (apply ol_val; exact rfl; apply s_callv; exact rfl; exact gf_23; (intro w' hw'; exact h2 w' hw'.le)); (apply ol_mv; exact rfl; exact rfl); (apply ol_ex; exact rfl; exact rfl; exact rfl); (apply ol_ex; exact rfl; exact rfl; exact rfl); (apply ol_as; exact rfl; exact rfl); (apply ol_as; exact rfl; exact rfl); (apply ol_nil))
    | (refine cw_region_id 7 ?_; (apply ol_mv; exact rfl; exact rfl); (apply ol_mv; exact rfl; exact rfl); (apply ol_val; exact rfl; apply stp_cmp; apply s_lss; exact rfl; exact rfl; all_goals (intro hc29; try (exfalso; (first | exact hc29 rfl | omega)))); all_goals (apply ol_nil))
    | (refine cw_region_id 8 ?_; (apply ol_as; exact rfl; exact rfl); (apply ol_as; exact rfl; exact rfl); (apply ol_nil))
    | (refine cw_region_id 9 ?_; (apply ol_as; exact rfl; exact rfl); (apply ol_nil))
    | (apply cw_cond_true; exact rfl; (first | exact rfl | assumption))
    | (apply cw_cond_false; exact rfl; (first | exact rfl | assumption))
    | apply cw_skip
    | apply cw_ret
    | apply cw_block
    | apply cw_exit
  refine cw_loopK (σ := CSt) [6] (by (repeat (first | exact Keep.nil | (apply Keep.cons; exact rfl)))) (fun s => [(0, .slice s.a n s.c), (1, .int .i64 (s.n : Nat)), (10, .slice (base s.r none) s.out.length s.cp)]) (fun s => s.V) (fun s => [⟨s.r, flat C2.enc (s.out.map toC2) ++ s.sp, 32⟩]) (CInv M d m L0) (fun s => s.n) ⟨M, [], m, p, m, a, b, o, c, none, 0, []⟩ (by (repeat (first | exact trivial | refine And.intro rfl ?_))) (View.le.refl _) (by (repeat (first | exact Pick.nil | (apply Pick.cons; (focus ((repeat (first | exact Spl.here | apply Spl.there)); done))) | exact Pick.refl))) ⟨View.le.refl _, s, hn.trans hp, by dsimp only; omega, hm, Nat.le_refl _, by simpa using hL, by dsimp only; simp, SO.nil 2⟩ ?_
  rintro ⟨V, out, f, S, k, a', b', o', c', r, cp, sp⟩ ⟨iv, is, il, ic, icn, ifu, icov, ile, iso⟩
  dsimp only at iv is il ic icn ifu icov ile iso
  dsimp only
  by_cases hk : 0 < k
  · obtain ⟨l, i, hg⟩ := greatest_exists il hk icn
    obtain ⟨g1, g2, g3, g4⟩ := greatest_spec hg
    have hlar := fun (w' : World) (hw' : View.le V (View.of w')) => largest_spec (c := c') hw' hd il rfl ic is k
    rw [hg] at hlar
    simp only [gRes] at hlar
    rw [← hp] at hlar
    have hmk := fun (w' : World) (hw' : View.le V (View.of w')) => mark_spec (c := c') hw' hd g1 g2 (il.trans hp.symm) hp is
    have hml := mark_length il g1 g2
    have hcm := cnt_mark g4 (by rw [il]; exact node_end' g1 g2)
    obtain ⟨f, rfl⟩ : ∃ f', f = f' + 1 := ⟨f - 1, by omega⟩
    rw [cov_succ hk hg] at icov
    have hsz : (1 : Int) * 2 ^ ((d : Int) - (l : Int)).toNat = ((sz d l : Nat) : Int) := by rw [Int.one_mul, pow_sub]
    have hsp := sz_pos d l
    have hs32 : sz d l ≤ 32 := Nat.le_trans sz_le h32
    generalize markN S d l i = X at *
    repeat' first
      | apply cw_seq
      | (refine cw_region_id 10 ?_; (apply ol_mv; exact rfl; exact rfl); (apply ol_val; exact rfl; apply stp_cmp; apply s_gtr; exact rfl; exact rfl; all_goals (intro hc31; try (exfalso; (first | exact hc31 rfl | omega)))); all_goals (apply ol_nil))
      | (refine cw_region_id 11 ?_; (apply ol_mv; exact rfl; exact rfl); (apply ol_mv; exact rfl; exact rfl); (apply ol_mv; exact rfl; exact rfl); (apply ol_val; exact rfl; apply s_callv; exact rfl; exact gf_40; (intro w' hw'; exact hlar w' hw'.le)); (apply ol_mv; exact rfl; exact rfl); (apply ol_ex; exact rfl; exact rfl; exact rfl); (apply ol_ex; exact rfl; exact rfl; exact rfl); (apply ol_val; exact rfl; apply s_alloc; exact zb_32; (focus ((repeat constructor); done)); intro bk11); (apply ol_eff; apply s_storeN; exact rfl; exact rfl; exact sz_32; exact rfl; exact rfl; (focus ((repeat constructor); done)); (focus ((repeat constructor); done))); (apply ol_as; exact rfl; exact rfl); (apply ol_nil))
      | (refine cw_region_id 12 ?_; (apply ol_mv; exact rfl; exact rfl); (apply ol_val; exact rfl; apply stp_pur; first | (apply s_not_t; exact rfl; (first | exact rfl | assumption)) | (apply s_not_f; exact rfl; (first | exact rfl | assumption)) | (apply s_not; exact rfl)); (apply ol_nil))
      | (refine cw_region_id 13 ?_; (apply ol_as; exact rfl; exact rfl); (apply ol_as; exact rfl; exact rfl); (apply ol_nil))
      | (refine cw_region_id 14 ?_; (apply ol_mv; exact rfl; exact rfl); (apply ol_ldN; exact rfl; exact rfl; exact rfl; exact sz_32; (apply RdN.own; (focus ((repeat constructor); done)); (focus ((repeat (first | exact rfl | constructor)); done)))); (apply ol_val; exact rfl; apply s_buildSl; exact rfl; exact el_24; exact sz_32; exact zb_32; (focus ((repeat constructor); done)); exact rfl; exact rfl; (exact Nat.le_of_ble_eq_true rfl); (focus ((repeat constructor); done)); (focus ((repeat (first | exact Fil.nil | (apply Fil.one; exact rfl; exact rfl; (repeat (first | exact SetAt.zero | apply SetAt.succ))) | (apply Fil.agg; exact rfl; exact rfl; (repeat (first | exact SetN.nil | (apply SetN.cons; (repeat (first | exact SetAt.zero | apply SetAt.succ))))); (exact Nat.le_of_ble_eq_true rfl)))); done)); intro bk43); (apply ol_val; exact rfl; first | (apply s_append_e; exact rfl; exact rfl; (focus ((repeat constructor); done)); exact el_24; exact sz_32; exact zb_32; exact rfl; exact by_32; (first | exact (fun _ => rfl)); (first | (apply RdN.own; (focus ((repeat constructor); done)); (focus ((repeat (first | exact rfl | constructor)); done)))); (first | exact rfl | exact rfl); (first | omega | (simp; omega) | (simp; done)); (first | omega | (simp; omega) | (simp; done)); intro rk44 sk44 ck44 ok44) | (apply s_append_r; exact rfl; exact rfl; (focus ((repeat constructor); done)); (first | exact rfl | exact (List.append_nil _).symm); exact el_24; exact sz_32; exact zb_32; exact rfl; exact by_32; (first | exact SO.nil _ | assumption | (exact ⟨by simp, by simp, Nat.le_refl _, by simp⟩)); (first | exact (fun _ => rfl)); (first | (apply RdN.own; (focus ((repeat constructor); done)); (focus ((repeat (first | exact rfl | constructor)); done)))); (first | exact rfl | exact rfl); (first | omega | (simp; omega) | (simp; done)); (first | omega | (simp; omega) | (simp; done)); intro rk44 sk44 ck44 ok44) | (apply s_append_b; exact rfl; exact rfl; (focus ((repeat constructor); done)); (first | exact rfl | exact (List.append_nil _).symm); exact el_24; exact sz_32; exact zb_32; exact rfl; exact by_32; (first | exact SO.nil _ | assumption | (exact ⟨by simp, by simp, Nat.le_refl _, by simp⟩)); (first | exact (fun _ => rfl)); (first | (apply RdN.own; (focus ((repeat constructor); done)); (focus ((repeat (first | exact rfl | constructor)); done)))); (first | exact rfl | exact rfl); (first | omega | (simp; omega) | (simp; done)); (first | omega | (simp; omega) | (simp; done)); intro rk44 sk44 ck44 ok44) | (apply s_append_n; exact rfl; exact rfl; (focus ((repeat constructor); done)); exact el_24; exact sz_32; exact zb_32; exact rfl; exact by_32; (first | exact (fun _ => rfl)); (first | (apply RdN.own; (focus ((repeat constructor); done)); (focus ((repeat (first | exact rfl | constructor)); done)))); (first | exact rfl | exact rfl); (first | omega | (simp; omega) | (simp; done)); (first | omega | (simp; omega) | (simp; done)); intro rk44 sk44 ck44 ok44)); (apply ol_as; exact rfl; exact rfl); (apply ol_nil))
      | (refine cw_region_id 15 ?_; (apply ol_mv; exact rfl; exact rfl); (apply ol_mv; exact rfl; exact rfl); (apply ol_ldN; exact rfl; exact rfl; exact rfl; exact sz_32; (apply RdN.own; (focus ((repeat constructor); done)); (focus ((repeat (first | exact rfl | constructor)); done)))); (apply ol_val; exact rfl; apply s_call; exact rfl; exact gf_41; (intro w' hw'; exact hmk w' hw'.le); ((intro v new h; obtain ⟨r1, A1, c1, s1, rfl, rfl, so1⟩ := h; obtain ⟨q, rfl⟩ : ∃ q, r1 = some q := ⟨_, some_ref so1 (by omega)⟩; apply ol_freeze (b := q) Spl.here; intro ob fz hob hVb _))); (apply ol_as; exact rfl; exact rfl); (apply ol_nil))
      | (refine cw_region_id 16 ?_; (apply ol_mv; exact rfl; exact rfl); (apply ol_mv; exact rfl; exact rfl); (apply ol_fa; exact rfl; exact rfl; exact fd_32_0; (first | exact Nat.zero_add _ | exact Nat.add_zero _ | exact rfl)); (apply ol_ld; exact rfl; exact rfl; exact rfl; (apply RdN.own; (focus ((repeat constructor); done)); (first | exact GetN.cons rfl GetN.nil | (apply getN_ints_app; (first | omega | (simp; omega) | (simp; done))) | (apply getN_ints; (first | omega | (simp; omega) | (simp; done)))))); (apply ol_val; exact rfl; apply stp_pur; apply s_sub64; exact rfl; exact rfl; omega); (apply ol_val; exact rfl; apply stp_pur; apply s_shl64; exact rfl; exact rfl; (first | decide | omega | (simp [IntKind.bits]; omega) | (simp [IntKind.bits]; done)); omega); (apply ol_val; exact rfl; apply stp_pur; apply s_sub64; exact rfl; exact rfl; omega); (apply ol_as; exact rfl; exact rfl); (apply ol_nil))
      | (refine cw_region_id 17 ?_; (apply ol_mv; exact rfl; exact rfl); (apply ol_as; exact rfl; exact rfl); (apply ol_as; exact rfl; exact rfl); (apply ol_nil))
      | (apply cw_cond_true; exact rfl; (first | exact rfl | assumption))
      | (apply cw_cond_false; exact rfl; (first | exact rfl | assumption))
      | apply cw_skip
      | apply cw_ret
      | apply cw_block
      | apply cw_exit
    subst hob
    have hcap := so1.hle
    refine ⟨⟨V.add q (.cells (flat eB X ++ s1).toArray 4 fz), out ++ [(l, i)], f, X, k - sz d l, some ⟨q, 0, none⟩, q, 0, c1, rk44, ck44, sk44⟩, ⟨?_, View.le.refl _, ?_, ⟨iv.trans (View.add_le hVb), SlA.frozen eB_length (fun j => View.add_cell j), hml, by dsimp only; omega, by dsimp only; omega, by dsimp only; omega, ?_, ?_, ?_⟩, by dsimp only; omega⟩⟩
    · dsimp only
      rw [hp, ← hml, List.length_append, List.length_singleton, show ((k - sz d l : Nat) : Int) = (k : Int) - 1 * 2 ^ ((d : Int) - (l : Int)).toNat by rw [hsz]; omega]
      (repeat (first | exact trivial | refine And.intro rfl ?_))
    · dsimp only
      rw [flat_snoc]
      (repeat (first | exact Pick.nil | (apply Pick.cons; (focus ((repeat (first | exact Spl.here | apply Spl.there)); done))) | exact Pick.refl))
    · dsimp only
      rw [List.append_assoc]
      exact icov
    · dsimp only
      rw [List.length_append, List.length_singleton]
      omega
    · dsimp only
      rw [flat_snoc, List.length_append, List.length_singleton]
      exact ok44
  · have : k = 0 := by omega
    subst this
    rw [cov_zero, List.append_nil] at icov
    subst icov
    repeat' first
      | apply cw_seq
      | (refine cw_region_id 10 ?_; (apply ol_mv; exact rfl; exact rfl); (apply ol_val; exact rfl; apply stp_cmp; apply s_gtr; exact rfl; exact rfl; all_goals (intro hc31; try (exfalso; (first | exact hc31 rfl | omega)))); all_goals (apply ol_nil))
      | (refine cw_region_id 11 ?_; (apply ol_mv; exact rfl; exact rfl); (apply ol_mv; exact rfl; exact rfl); (apply ol_mv; exact rfl; exact rfl))
      | (refine cw_region_id 12 ?_; (apply ol_mv; exact rfl; exact rfl); (apply ol_val; exact rfl; apply stp_pur; first | (apply s_not_t; exact rfl; (first | exact rfl | assumption)) | (apply s_not_f; exact rfl; (first | exact rfl | assumption)) | (apply s_not; exact rfl)); (apply ol_nil))
      | (refine cw_region_id 13 ?_; (apply ol_as; exact rfl; exact rfl); (apply ol_as; exact rfl; exact rfl); (apply ol_nil))
      | (refine cw_region_id 14 ?_; (apply ol_mv; exact rfl; exact rfl); (apply ol_ldN; exact rfl; exact rfl; exact rfl; exact sz_32; (apply RdN.own; (focus ((repeat constructor); done)); (focus ((repeat (first | exact rfl | constructor)); done)))); (apply ol_val; exact rfl; apply s_buildSl; exact rfl; exact el_24; exact sz_32; exact zb_32; (focus ((repeat constructor); done)); exact rfl; exact rfl; (exact Nat.le_of_ble_eq_true rfl); (focus ((repeat constructor); done)); (focus ((repeat (first | exact Fil.nil | (apply Fil.one; exact rfl; exact rfl; (repeat (first | exact SetAt.zero | apply SetAt.succ))) | (apply Fil.agg; exact rfl; exact rfl; (repeat (first | exact SetN.nil | (apply SetN.cons; (repeat (first | exact SetAt.zero | apply SetAt.succ))))); (exact Nat.le_of_ble_eq_true rfl)))); done)); intro bk43); (apply ol_val; exact rfl; first | (apply s_append_e; exact rfl; exact rfl; (focus ((repeat constructor); done)); exact el_24; exact sz_32; exact zb_32; exact rfl; exact by_32; (first | exact (fun _ => rfl)); (first | (apply RdN.own; (focus ((repeat constructor); done)); (focus ((repeat (first | exact rfl | constructor)); done)))); (first | exact rfl); (first | omega | (simp; omega) | (simp; done)); (first | omega | (simp; omega) | (simp; done)); intro rk44 sk44 ck44 ok44) | (apply s_append_r; exact rfl; exact rfl; (focus ((repeat constructor); done)); (first | exact rfl | exact (List.append_nil _).symm); exact el_24; exact sz_32; exact zb_32; exact rfl; exact by_32; (first | exact SO.nil _ | assumption | (exact ⟨by simp, by simp, Nat.le_refl _, by simp⟩)); (first | exact (fun _ => rfl)); (first | (apply RdN.own; (focus ((repeat constructor); done)); (focus ((repeat (first | exact rfl | constructor)); done)))); (first | exact rfl); (first | omega | (simp; omega) | (simp; done)); (first | omega | (simp; omega) | (simp; done)); intro rk44 sk44 ck44 ok44) | (apply s_append_b; exact rfl; exact rfl; (focus ((repeat constructor); done)); (first | exact rfl | exact (List.append_nil _).symm); exact el_24; exact sz_32; exact zb_32; exact rfl; exact by_32; (first | exact SO.nil _ | assumption | (exact ⟨by simp, by simp, Nat.le_refl _, by simp⟩)); (first | exact (fun _ => rfl)); (first | (apply RdN.own; (focus ((repeat constructor); done)); (focus ((repeat (first | exact rfl | constructor)); done)))); (first | exact rfl); (first | omega | (simp; omega) | (simp; done)); (first | omega | (simp; omega) | (simp; done)); intro rk44 sk44 ck44 ok44) | (apply s_append_n; exact rfl; exact rfl; (focus ((repeat constructor); done)); exact el_24; exact sz_32; exact zb_32; exact rfl; exact by_32; (first | exact (fun _ => rfl)); (first | (apply RdN.own; (focus ((repeat constructor); done)); (focus ((repeat (first | exact rfl | constructor)); done)))); (first | exact rfl); (first | omega | (simp; omega) | (simp; done)); (first | omega | (simp; omega) | (simp; done)); intro rk44 sk44 ck44 ok44)); (apply ol_as; exact rfl; exact rfl); (apply ol_nil))
      | (refine cw_region_id 15 ?_; (apply ol_mv; exact rfl; exact rfl); (apply ol_mv; exact rfl; exact rfl); (apply ol_ldN; exact rfl; exact rfl; exact rfl; exact sz_32; (apply RdN.own; (focus ((repeat constructor); done)); (focus ((repeat (first | exact rfl | constructor)); done)))))
      | (refine cw_region_id 16 ?_; (apply ol_mv; exact rfl; exact rfl); (apply ol_mv; exact rfl; exact rfl); (apply ol_fa; exact rfl; exact rfl; exact fd_32_0; (first | exact Nat.zero_add _ | exact Nat.add_zero _ | exact rfl)); (apply ol_ld; exact rfl; exact rfl; exact rfl; (apply RdN.own; (focus ((repeat constructor); done)); (first | exact GetN.cons rfl GetN.nil | (apply getN_ints_app; (first | omega | (simp; omega) | (simp; done))) | (apply getN_ints; (first | omega | (simp; omega) | (simp; done)))))); (apply ol_val; exact rfl; apply stp_pur; apply s_sub64; exact rfl; exact rfl; omega); (apply ol_val; exact rfl; apply stp_pur; apply s_shl64; exact rfl; exact rfl; (first | decide | omega | (simp [IntKind.bits]; omega) | (simp [IntKind.bits]; done)); omega); (apply ol_val; exact rfl; apply stp_pur; apply s_sub64; exact rfl; exact rfl; omega); (apply ol_as; exact rfl; exact rfl); (apply ol_nil))
      | (refine cw_region_id 17 ?_; (apply ol_mv; exact rfl; exact rfl); (apply ol_as; exact rfl; exact rfl); (apply ol_as; exact rfl; exact rfl); (apply ol_nil))
      | (apply cw_cond_true; exact rfl; (first | exact rfl | assumption))
      | (apply cw_cond_false; exact rfl; (first | exact rfl | assumption))
      | apply cw_skip
      | apply cw_ret
      | apply cw_block
      | apply cw_exit
    refine ends [⟨r, flat C2.enc (out.map toC2) ++ sp, 32⟩] (RVal.tmp rfl (RVal.tmp rfl RVal.nil)) (by (repeat (first | exact Pick.nil | (apply Pick.cons; (focus ((repeat (first | exact Spl.here | apply Spl.there)); done))) | exact Pick.refl))) ?_
    exact ⟨r, cp, sp, rfl, rfl, fun h => List.eq_nil_of_length_eq_zero (iso.empty h)⟩

structure DSt where
  V : View
  out : List (Nat × Nat)
  f : Nat
  S : List Bool
  n : Nat
  a : Option Addr
  b : Nat
  o : Nat
  c : Nat
  r : Option Nat
  cp : Nat
  sp : List Value
structure DInv (M : View) (d n0 : Nat) (L0 : List (Nat × Nat)) (s : DSt) : Prop where
  vw : View.le M s.V
  sl : SlA s.V eB 1 s.a s.S s.b s.o
  len : s.S.length = 2 ^ d
  cnt : s.n ≤ cnt s.S
  fuel : s.n ≤ s.f
  cov : s.out ++ cov d s.f s.S s.n = L0
  le : s.out.length + s.n ≤ n0
  so : SO s.r s.out.length s.cp (flat C2.enc (s.out.map toC2)) s.sp 2
/-- A row of nodes. -/
def NodRow (L : List (Nat × Nat)) (v : Value) (new : List OB) : Prop :=
  ∃ r cap sp, v = .slice (base r none) L.length cap ∧ new = [⟨r, flat C2.enc (L.map toC2) ++ sp, 32⟩] ∧ (r = none → L = [])
theorem rCover_spec {M : View} {w : World} (hM : View.le M (View.of w)) {d : Nat} (hd : d ≤ 5) {p : List Bool} {n c : Nat} (hn : p.length = n) (hp : n = 2 ^ d) {a : Option Addr} {b o : Nat} (s : SlA M eB 1 a p b o) {m : Nat} (hm : m ≤ cnt p) :
    FnC Tryd.prog 15 [.slice a n c, .int .i64 m] w (NodRow (cov d m p m)) := by
  refine enterF (M := M) Tryd.func15 rfl rfl rfl rfl hM ?_
  have h1 := fun w' => rdepth_spec w' hd hp
  have h32 := pow32 hd
  have hcl := cnt_le p
  generalize hL : cov d m p m = L0 at *
  refine cw_none 32 ?_
  repeat' first
    | apply cw_seq
    | (refine cw_region_id 0 ?_; (apply ol_as; exact rfl; exact rfl); (apply ol_nil))
    | (refine cw_region_id 1 ?_; (apply ol_as; exact rfl; exact rfl); (apply ol_nil))
    | (apply cw_cond_true; exact rfl; (first | exact rfl | assumption))
    | (apply cw_cond_false; exact rfl; (first | exact rfl | assumption))
    | apply cw_skip
    | apply cw_ret
    | apply cw_block
    | apply cw_exit
  refine cw_loopK (σ := DSt) [] (by (repeat (first | exact Keep.nil | (apply Keep.cons; exact rfl)))) (fun s => [(0, .slice s.a n s.c), (1, .int .i64 (s.n : Nat)), (5, .slice (base s.r none) s.out.length s.cp)]) (fun s => s.V) (fun s => [⟨s.r, flat C2.enc (s.out.map toC2) ++ s.sp, 32⟩]) (DInv M d m L0) (fun s => s.n) ⟨M, [], m, p, m, a, b, o, c, none, 0, []⟩ (by (repeat (first | exact trivial | refine And.intro rfl ?_))) (View.le.refl _) (by (repeat (first | exact Pick.nil | (apply Pick.cons; (focus ((repeat (first | exact Spl.here | apply Spl.there)); done))) | exact Pick.refl))) ⟨View.le.refl _, s, hn.trans hp, hm, Nat.le_refl _, by simpa using hL, by dsimp only; simp, SO.nil 2⟩ ?_
  rintro ⟨V, out, f, S, k, a', b', o', c', r, cp, sp⟩ ⟨iv, is, il, icn, ifu, icov, ile, iso⟩
  dsimp only at iv is il icn ifu icov ile iso
  dsimp only
  by_cases hk : 0 < k
  · obtain ⟨l, i, hg⟩ := greatest_exists il hk icn
    obtain ⟨g1, g2, g3, g4⟩ := greatest_spec hg
    have hlar := fun (w' : World) (hw' : View.le V (View.of w')) => greatest_walk (c := c') hw' hd il rfl is k
    rw [hg] at hlar
    simp only [gRes] at hlar
    rw [← hp] at hlar
    have hmk := fun (w' : World) (hw' : View.le V (View.of w')) => rmark_spec (c := c') hw' hd g1 g2 (il.trans hp.symm) hp is
    have hml := mark_length il g1 g2
    have hcm := cnt_mark g4 (by rw [il]; exact node_end' g1 g2)
    obtain ⟨f, rfl⟩ : ∃ f', f = f' + 1 := ⟨f - 1, by omega⟩
    rw [cov_succ hk hg] at icov
    have hszs := fun w' => size_spec w' (i : Int) g1 hd
    have hsp := sz_pos d l
    have hs32 : sz d l ≤ 32 := Nat.le_trans sz_le h32
    generalize markN S d l i = X at *
    repeat' first
      | apply cw_seq
      | (refine cw_region_id 2 ?_; (apply ol_mv; exact rfl; exact rfl); (apply ol_val; exact rfl; apply stp_cmp; apply s_gtr; exact rfl; exact rfl; all_goals (intro hc9; try (exfalso; (first | exact hc9 rfl | omega)))); all_goals (apply ol_nil))
      | (refine cw_region_id 3 ?_; (apply ol_mv; exact rfl; exact rfl); (apply ol_mv; exact rfl; exact rfl); (apply ol_val; exact rfl; apply s_callv; exact rfl; exact gf_29; (intro w' hw'; exact hlar w' hw'.le)); (apply ol_mv; exact rfl; exact rfl); (apply ol_ex; exact rfl; exact rfl; exact rfl); (apply ol_ex; exact rfl; exact rfl; exact rfl); (apply ol_val; exact rfl; apply s_alloc; exact zb_32; (focus ((repeat constructor); done)); intro bk6); (apply ol_eff; apply s_storeN; exact rfl; exact rfl; exact sz_32; exact rfl; exact rfl; (focus ((repeat constructor); done)); (focus ((repeat constructor); done))); (apply ol_as; exact rfl; exact rfl); (apply ol_nil))
      | (refine cw_region_id 4 ?_; (apply ol_mv; exact rfl; exact rfl); (apply ol_val; exact rfl; apply stp_pur; first | (apply s_not_t; exact rfl; (first | exact rfl | assumption)) | (apply s_not_f; exact rfl; (first | exact rfl | assumption)) | (apply s_not; exact rfl)); (apply ol_nil))
      | (refine cw_region_id 5 ?_; (apply ol_as; exact rfl; exact rfl); (apply ol_nil))
      | (refine cw_region_id 6 ?_; (apply ol_mv; exact rfl; exact rfl); (apply ol_ldN; exact rfl; exact rfl; exact rfl; exact sz_32; (apply RdN.own; (focus ((repeat constructor); done)); (focus ((repeat (first | exact rfl | constructor)); done)))); (apply ol_val; exact rfl; apply s_buildSl; exact rfl; exact el_24; exact sz_32; exact zb_32; (focus ((repeat constructor); done)); exact rfl; exact rfl; (exact Nat.le_of_ble_eq_true rfl); (focus ((repeat constructor); done)); (focus ((repeat (first | exact Fil.nil | (apply Fil.one; exact rfl; exact rfl; (repeat (first | exact SetAt.zero | apply SetAt.succ))) | (apply Fil.agg; exact rfl; exact rfl; (repeat (first | exact SetN.nil | (apply SetN.cons; (repeat (first | exact SetAt.zero | apply SetAt.succ))))); (exact Nat.le_of_ble_eq_true rfl)))); done)); intro bk20); (apply ol_val; exact rfl; first | (apply s_append_e; exact rfl; exact rfl; (focus ((repeat constructor); done)); exact el_24; exact sz_32; exact zb_32; exact rfl; exact by_32; (first | exact (fun _ => rfl)); (first | (apply RdN.own; (focus ((repeat constructor); done)); (focus ((repeat (first | exact rfl | constructor)); done)))); (first | exact rfl | exact rfl); (first | omega | (simp; omega) | (simp; done)); (first | omega | (simp; omega) | (simp; done)); intro rk21 sk21 ck21 ok21) | (apply s_append_r; exact rfl; exact rfl; (focus ((repeat constructor); done)); (first | exact rfl | exact (List.append_nil _).symm); exact el_24; exact sz_32; exact zb_32; exact rfl; exact by_32; (first | exact SO.nil _ | assumption | (exact ⟨by simp, by simp, Nat.le_refl _, by simp⟩)); (first | exact (fun _ => rfl)); (first | (apply RdN.own; (focus ((repeat constructor); done)); (focus ((repeat (first | exact rfl | constructor)); done)))); (first | exact rfl | exact rfl); (first | omega | (simp; omega) | (simp; done)); (first | omega | (simp; omega) | (simp; done)); intro rk21 sk21 ck21 ok21) | (apply s_append_b; exact rfl; exact rfl; (focus ((repeat constructor); done)); (first | exact rfl | exact (List.append_nil _).symm); exact el_24; exact sz_32; exact zb_32; exact rfl; exact by_32; (first | exact SO.nil _ | assumption | (exact ⟨by simp, by simp, Nat.le_refl _, by simp⟩)); (first | exact (fun _ => rfl)); (first | (apply RdN.own; (focus ((repeat constructor); done)); (focus ((repeat (first | exact rfl | constructor)); done)))); (first | exact rfl | exact rfl); (first | omega | (simp; omega) | (simp; done)); (first | omega | (simp; omega) | (simp; done)); intro rk21 sk21 ck21 ok21) | (apply s_append_n; exact rfl; exact rfl; (focus ((repeat constructor); done)); exact el_24; exact sz_32; exact zb_32; exact rfl; exact by_32; (first | exact (fun _ => rfl)); (first | (apply RdN.own; (focus ((repeat constructor); done)); (focus ((repeat (first | exact rfl | constructor)); done)))); (first | exact rfl | exact rfl); (first | omega | (simp; omega) | (simp; done)); (first | omega | (simp; omega) | (simp; done)); intro rk21 sk21 ck21 ok21)); (apply ol_as; exact rfl; exact rfl); (apply ol_nil))
      | (refine cw_draw (id := 7) 8 (.mv 0 (.mv 1 (.mv 2 (.mv 4 (.fx 3 (.fx 5 (.mv 6 (.mv 7 (PT.nil))))))))) mixed (by kernel_rfl) ?_; (apply od_mv; exact rfl; exact rfl; apply s_move; exact rfl); (apply od_mv; exact rfl; exact rfl; apply s_move; exact rfl); (apply od_mv; exact rfl; exact rfl; apply s_len; exact rfl; exact el_22); (apply od_mv; exact rfl; exact rfl; apply s_loadN; exact rfl; exact rfl; exact sz_32; (apply RdN.own; (focus ((repeat constructor); done)); (focus ((repeat (first | exact rfl | constructor)); done)))); (apply od_fx; (first | exact Wk.refl _ _ | (focus (apply Wk.mk; exact View.le.refl _; (repeat constructor); done))); (apply fx_val; exact rfl; exact rfl; apply s_callv; exact rfl; exact gf_12; (intro w' hw'; exact h1 w'))); (apply od_fx; (first | exact Wk.refl _ _ | (focus (apply Wk.mk; exact View.le.refl _; (repeat constructor); done))); (apply fx_val; exact rfl; exact rfl; apply s_callv; exact rfl; exact gf_25; (intro w' hw'; exact hszs w'))); (apply od_mv; exact rfl; exact rfl; apply s_sub64; exact rfl; exact rfl; omega); (apply od_mv; exact rfl; exact rfl; apply s_assign; exact rfl); (apply od_nil; (first | exact Wk.refl _ _ | (focus (apply Wk.mk; exact View.le.refl _; (repeat constructor); done)))); (apply ol_nil))
      | (refine cw_region_id 8 ?_; (apply ol_mv; exact rfl; exact rfl); (apply ol_ldN; exact rfl; exact rfl; exact rfl; exact sz_32; (apply RdN.own; (focus ((repeat constructor); done)); (focus ((repeat (first | exact rfl | constructor)); done)))); (apply ol_val; exact rfl; apply s_call; exact rfl; exact gf_32; (intro w' hw'; exact hmk w' hw'.le); ((intro v new h; obtain ⟨r1, A1, c1, s1, rfl, rfl, so1⟩ := h; obtain ⟨q, rfl⟩ : ∃ q, r1 = some q := ⟨_, some_ref so1 (by omega)⟩; apply ol_freeze (b := q) Spl.here; intro ob fz hob hVb _))); (apply ol_as; exact rfl; exact rfl); (apply ol_nil))
      | (refine cw_region_id 9 ?_; (apply ol_mv; exact rfl; exact rfl); (apply ol_as; exact rfl; exact rfl); (apply ol_nil))
      | (apply cw_cond_true; exact rfl; (first | exact rfl | assumption))
      | (apply cw_cond_false; exact rfl; (first | exact rfl | assumption))
      | apply cw_skip
      | apply cw_ret
      | apply cw_block
      | apply cw_exit
    subst hob
    refine ⟨⟨V.add q (.cells (flat eB X ++ s1).toArray 4 fz), out ++ [(l, i)], f, X, k - sz d l, some ⟨q, 0, none⟩, q, 0, c1, rk21, ck21, sk21⟩, ⟨?_, View.le.refl _, ?_, ⟨iv.trans (View.add_le hVb), SlA.frozen eB_length (fun j => View.add_cell j), hml, by dsimp only; omega, by dsimp only; omega, ?_, ?_, ?_⟩, by dsimp only; omega⟩⟩
    · dsimp only
      rw [hp, ← hml, List.length_append, List.length_singleton, show ((k - sz d l : Nat) : Int) = (k : Int) - ((sz d l : Nat) : Int) by omega]
      (repeat (first | exact trivial | refine And.intro rfl ?_))
    · dsimp only
      rw [flat_snoc]
      (repeat (first | exact Pick.nil | (apply Pick.cons; (focus ((repeat (first | exact Spl.here | apply Spl.there)); done))) | exact Pick.refl))
    · dsimp only
      rw [List.append_assoc]
      exact icov
    · dsimp only
      rw [List.length_append, List.length_singleton]
      omega
    · dsimp only
      rw [flat_snoc, List.length_append, List.length_singleton]
      exact ok21
  · have : k = 0 := by omega
    subst this
    rw [cov_zero, List.append_nil] at icov
    subst icov
    repeat' first
      | apply cw_seq
      | (refine cw_region_id 2 ?_; (apply ol_mv; exact rfl; exact rfl); (apply ol_val; exact rfl; apply stp_cmp; apply s_gtr; exact rfl; exact rfl; all_goals (intro hc9; try (exfalso; (first | exact hc9 rfl | omega)))); all_goals (apply ol_nil))
      | (refine cw_region_id 3 ?_; (apply ol_mv; exact rfl; exact rfl); (apply ol_mv; exact rfl; exact rfl))
      | (refine cw_region_id 4 ?_; (apply ol_mv; exact rfl; exact rfl); (apply ol_val; exact rfl; apply stp_pur; first | (apply s_not_t; exact rfl; (first | exact rfl | assumption)) | (apply s_not_f; exact rfl; (first | exact rfl | assumption)) | (apply s_not; exact rfl)); (apply ol_nil))
      | (refine cw_region_id 5 ?_; (apply ol_as; exact rfl; exact rfl); (apply ol_nil))
      | (refine cw_region_id 6 ?_; (apply ol_mv; exact rfl; exact rfl); (apply ol_ldN; exact rfl; exact rfl; exact rfl; exact sz_32; (apply RdN.own; (focus ((repeat constructor); done)); (focus ((repeat (first | exact rfl | constructor)); done)))); (apply ol_val; exact rfl; apply s_buildSl; exact rfl; exact el_24; exact sz_32; exact zb_32; (focus ((repeat constructor); done)); exact rfl; exact rfl; (exact Nat.le_of_ble_eq_true rfl); (focus ((repeat constructor); done)); (focus ((repeat (first | exact Fil.nil | (apply Fil.one; exact rfl; exact rfl; (repeat (first | exact SetAt.zero | apply SetAt.succ))) | (apply Fil.agg; exact rfl; exact rfl; (repeat (first | exact SetN.nil | (apply SetN.cons; (repeat (first | exact SetAt.zero | apply SetAt.succ))))); (exact Nat.le_of_ble_eq_true rfl)))); done)); intro bk20); (apply ol_val; exact rfl; first | (apply s_append_e; exact rfl; exact rfl; (focus ((repeat constructor); done)); exact el_24; exact sz_32; exact zb_32; exact rfl; exact by_32; (first | exact (fun _ => rfl)); (first | (apply RdN.own; (focus ((repeat constructor); done)); (focus ((repeat (first | exact rfl | constructor)); done)))); (first | exact rfl); (first | omega | (simp; omega) | (simp; done)); (first | omega | (simp; omega) | (simp; done)); intro rk21 sk21 ck21 ok21) | (apply s_append_r; exact rfl; exact rfl; (focus ((repeat constructor); done)); (first | exact rfl | exact (List.append_nil _).symm); exact el_24; exact sz_32; exact zb_32; exact rfl; exact by_32; (first | exact SO.nil _ | assumption | (exact ⟨by simp, by simp, Nat.le_refl _, by simp⟩)); (first | exact (fun _ => rfl)); (first | (apply RdN.own; (focus ((repeat constructor); done)); (focus ((repeat (first | exact rfl | constructor)); done)))); (first | exact rfl); (first | omega | (simp; omega) | (simp; done)); (first | omega | (simp; omega) | (simp; done)); intro rk21 sk21 ck21 ok21) | (apply s_append_b; exact rfl; exact rfl; (focus ((repeat constructor); done)); (first | exact rfl | exact (List.append_nil _).symm); exact el_24; exact sz_32; exact zb_32; exact rfl; exact by_32; (first | exact SO.nil _ | assumption | (exact ⟨by simp, by simp, Nat.le_refl _, by simp⟩)); (first | exact (fun _ => rfl)); (first | (apply RdN.own; (focus ((repeat constructor); done)); (focus ((repeat (first | exact rfl | constructor)); done)))); (first | exact rfl); (first | omega | (simp; omega) | (simp; done)); (first | omega | (simp; omega) | (simp; done)); intro rk21 sk21 ck21 ok21) | (apply s_append_n; exact rfl; exact rfl; (focus ((repeat constructor); done)); exact el_24; exact sz_32; exact zb_32; exact rfl; exact by_32; (first | exact (fun _ => rfl)); (first | (apply RdN.own; (focus ((repeat constructor); done)); (focus ((repeat (first | exact rfl | constructor)); done)))); (first | exact rfl); (first | omega | (simp; omega) | (simp; done)); (first | omega | (simp; omega) | (simp; done)); intro rk21 sk21 ck21 ok21)); (apply ol_as; exact rfl; exact rfl); (apply ol_nil))
      | (refine cw_draw (id := 7) 8 (.mv 0 (.mv 1 (.mv 2 (.mv 4 (.fx 3 (.fx 5 (.mv 6 (.mv 7 (PT.nil))))))))) mixed (by kernel_rfl) ?_; (apply od_mv; exact rfl; exact rfl; apply s_move; exact rfl); (apply od_mv; exact rfl; exact rfl; apply s_move; exact rfl); (apply od_mv; exact rfl; exact rfl; apply s_len; exact rfl; exact el_22); (apply od_mv; exact rfl; exact rfl; apply s_loadN; exact rfl; exact rfl; exact sz_32; (apply RdN.own; (focus ((repeat constructor); done)); (focus ((repeat (first | exact rfl | constructor)); done)))))
      | (refine cw_region_id 8 ?_; (apply ol_mv; exact rfl; exact rfl); (apply ol_ldN; exact rfl; exact rfl; exact rfl; exact sz_32; (apply RdN.own; (focus ((repeat constructor); done)); (focus ((repeat (first | exact rfl | constructor)); done)))))
      | (refine cw_region_id 9 ?_; (apply ol_mv; exact rfl; exact rfl); (apply ol_as; exact rfl; exact rfl); (apply ol_nil))
      | (apply cw_cond_true; exact rfl; (first | exact rfl | assumption))
      | (apply cw_cond_false; exact rfl; (first | exact rfl | assumption))
      | apply cw_skip
      | apply cw_ret
      | apply cw_block
      | apply cw_exit
    refine ends [⟨r, flat C2.enc (out.map toC2) ++ sp, 32⟩] (RVal.tmp rfl RVal.nil) (by (repeat (first | exact Pick.nil | (apply Pick.cons; (focus ((repeat (first | exact Spl.here | apply Spl.there)); done))) | exact Pick.refl))) ?_
    exact ⟨r, cp, sp, rfl, rfl, fun h => List.eq_nil_of_length_eq_zero (iso.empty h)⟩
end Go.Proofs.YtkmpiamfgmdihaaDoor
