/-
  The walk of awake: the examples of the chapter.
-/
import Derived.Test.YthhhleplbmpakaaDoorW12
import Derived.Test.YthhhleplbmpakaaDoorS1t
import Derived.Test.YthhhleplbmpakaaDoorFw16
namespace Go.Proofs.YthhhleplbmpakaaDoor
set_option maxRecDepth 20000
set_option linter.unusedSimpArgs false
set_option linter.unusedVariables false
open Go Go.Fw

theorem hexN_take (h : List Int) (k : Nat) : ∀ m, k ≤ m → (hexN h m).take (2 * k) = hexN h k
  | 0, hm => by
    have : k = 0 := by omega
    subst this; rfl
  | m + 1, hm => by
    by_cases e : k = m + 1
    · subst e
      exact List.take_of_length_le (by rw [hexN_length]; exact Nat.le_refl _)
    · have ih := hexN_take h k m (by omega)
      rw [← ih]
      have hl := hexN_length h m
      simp only [hexN, List.append_assoc]
      rw [List.take_append_of_le_length (by rw [hl]; omega)]
theorem hexN_congr {h g : List Int} : ∀ {k : Nat}, (∀ i, i < k → h.getD i 0 = g.getD i 0) → hexN h k = hexN g k
  | 0, _ => rfl
  | k + 1, e => by
    have ih := hexN_congr (k := k) (fun i hi => e i (by omega))
    simp only [hexN, ih, e k (by omega)]
theorem hex8 {h q : List Int} (e : h.take 4 = q) : (hexN h 32).take 8 = hexN q 4 := by
  rw [hexN_take h 4 32 (by decide)]
  refine hexN_congr fun i hi => ?_
  subst e
  simp [List.getD, List.getElem?_take, hi]
theorem str8 {h q : List Int} (e : h.take 4 = q) {p : ByteArray} (hp : p.data.toList = bytesOf (hexN q 4)) : (((strOf (hexN h 32)).extract 0 8).toList == p.toList) = true := by
  rw [ByteArray.toList_eq, ByteArray.toList_eq, hp, ← hex8 e]
  simp [strOf, bytesOf]
theorem str_length (h : List Int) : (strOf (hexN h 32)).size = 64 := by rw [strOf_size, hexN_length]
end Go.Proofs.YthhhleplbmpakaaDoor
namespace Go.Proofs.YthhhleplbmpakaaDoor
set_option maxRecDepth 20000
set_option linter.unusedSimpArgs false
set_option linter.unusedVariables false
open Go Go.Fw
attribute [local irreducible] CW OL OD FX Stp FnC Ret sha hexN strOf
set_option maxHeartbeats 800000

def pA : ByteArray := ⟨#[98, 97, 55, 56, 49, 54, 98, 102]⟩
def pB : ByteArray := ⟨#[101, 51, 98, 48, 99, 52, 52, 50]⟩
theorem pA_ok : pA.data.toList = bytesOf (hexN [186, 120, 22, 191] 4) := by decide +kernel
theorem pB_ok : pB.data.toList = bytesOf (hexN [227, 176, 196, 66] 4) := by decide +kernel
theorem isB_abc : isB [97, 98, 99] := .of fun x hx => by simp at hx; omega
theorem isB_nil : isB [] := .of fun x hx => by cases hx

theorem awake_spec {M : View} {w : World} (hM : View.le M (View.of w)) (hL : Laid M) : FnC Tryd.prog 11 [] w (fun v _ => v = .bool true) := by
  refine enterF (M := M) Tryd.func11 rfl rfl rfl rfl hM ?_
  have h1 : ∀ w', (((strOf (hexN (sha [97, 98, 99]) 32)).extract 0 pA.size).toList == pA.toList) = true → FnC Tryd.prog 31 [.string (strOf (hexN (sha [97, 98, 99]) 32)), .string pA] w' (fun v _ => v = .bool true) := fun w' e => by
    have := prefix_spec w' (strOf (hexN (sha [97, 98, 99]) 32)) pA (by rw [str_length]; decide) (by rw [str_length]; decide)
    rw [e] at this; exact this
  have h2 : ∀ w', (((strOf (hexN (sha []) 32)).extract 0 pB.size).toList == pB.toList) = true → FnC Tryd.prog 31 [.string (strOf (hexN (sha []) 32)), .string pB] w' (fun v _ => v = .bool true) := fun w' e => by
    have := prefix_spec w' (strOf (hexN (sha []) 32)) pB (by rw [str_length]; decide) (by rw [str_length]; decide)
    rw [e] at this; exact this
  replace h1 := fun w' => h1 w' (str8 sha_abc pA_ok)
  replace h2 := fun w' => h2 w' (str8 sha_nil pB_ok)
  have g1 := fun w' => hex_spec w' (sha_length [97, 98, 99]) (isB_sha _)
  have g2 := fun w' => hex_spec w' (sha_length []) (isB_sha _)
  repeat' first
    | apply cw_seq
    | (refine cw_region_id 0 ?_; (apply ol_as; exact rfl; exact rfl); (apply ol_nil))
    | (refine cw_region_id 1 ?_; (apply ol_val; exact rfl; apply s_buildSl; exact rfl; exact el_22; exact sz_5; exact zb_5; (focus ((repeat constructor); done)); exact rfl; exact rfl; (exact Nat.le_of_ble_eq_true rfl); (focus ((repeat constructor); done)); (focus ((repeat (first | exact rfl | constructor)); done)); intro bk1); (apply ol_val; exact rfl; apply s_convSame; exact rfl; exact el_22; exact tdInt_eq ti_5; (focus ((repeat constructor); done))); (apply ol_val; exact rfl; apply s_callv; exact rfl; exact gf_12; (intro w' hw'; (first | exact sum_spec (w := w') (View.le.refl _) (hL.mono hw'.le) (p := [97, 98, 99]) rfl (by decide) isB_abc (SlA.own (eK_length .u8) (r := some bk1) (T := 5) (xs := [97, 98, 99]) (sp := []) (A := none) (hw'.ok_ (by (repeat (first | exact Has.here | apply Has.there)))) (fun h => by cases h)) | exact sum_spec (w := w') hw'.le hL (p := []) rfl (by decide) isB_nil SlA.zilch))); (apply ol_val; exact rfl; apply s_callv; exact rfl; exact gf_16; (intro w' hw'; (first | exact g1 w' | exact g2 w'))); (apply ol_val; exact rfl; apply s_callv; exact rfl; exact gf_31; (intro w' hw'; (first | exact h1 w' | exact h2 w'))); (apply ol_mv; exact rfl; exact rfl); (first | (apply ol_gskip; exact rfl; exact rfl; (first | exact rfl | assumption); exact rfl) | (apply ol_gval; exact rfl; exact rfl; exact rfl; (first | exact rfl | assumption); apply s_callv; exact rfl; exact gf_12; (intro w' hw'; (first | exact sum_spec (w := w') (View.le.refl _) (hL.mono hw'.le) (p := [97, 98, 99]) rfl (by decide) isB_abc (SlA.own (eK_length .u8) (r := some bk1) (T := 5) (xs := [97, 98, 99]) (sp := []) (A := none) (hw'.ok_ (by (repeat (first | exact Has.here | apply Has.there)))) (fun h => by cases h)) | exact sum_spec (w := w') hw'.le hL (p := []) rfl (by decide) isB_nil SlA.zilch)))); (first | (apply ol_gskip; exact rfl; exact rfl; (first | exact rfl | assumption); exact rfl) | (apply ol_gval; exact rfl; exact rfl; exact rfl; (first | exact rfl | assumption); apply s_callv; exact rfl; exact gf_16; (intro w' hw'; (first | exact g1 w' | exact g2 w')))); (first | (apply ol_gskip; exact rfl; exact rfl; (first | exact rfl | assumption); exact rfl) | (apply ol_gval; exact rfl; exact rfl; exact rfl; (first | exact rfl | assumption); apply s_callv; exact rfl; exact gf_31; (intro w' hw'; (first | exact h1 w' | exact h2 w')))); (apply ol_val; exact rfl; apply stp_pur; first | (apply s_pick_t; exact rfl; (first | exact rfl | assumption); exact rfl) | (apply s_pick_f; exact rfl; (first | exact rfl | assumption); exact rfl)); (apply ol_as; exact rfl; exact rfl); (apply ol_nil))
    | (apply cw_cond_true; exact rfl; (first | exact rfl | assumption))
    | (apply cw_cond_false; exact rfl; (first | exact rfl | assumption))
    | apply cw_skip
    | apply cw_ret
    | apply cw_block
    | apply cw_exit
  refine ends [] (RVal.tmp rfl RVal.nil) Pick.nil ?_
  rfl
end Go.Proofs.YthhhleplbmpakaaDoor
