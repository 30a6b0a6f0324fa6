/-
  Texts joined: T3 T4 T5 T6 T7 T8 L2 R1 R2 R3 V1 V2 V3.
-/
import Derived.Test.YtkkfgeekdaalmaaDoorYgt
import Derived.Shelf.Lay
import Derived.Shelf.LaysM
import Derived.Shelf.Strconv.Itoa1
import Derived.Shelf.Strconv.Itoa2
import Derived.Lib.LaidTab
import Derived.Lib.Itoa
namespace Go.Proofs
set_option maxRecDepth 20000
set_option linter.unusedSimpArgs false
set_option linter.unusedVariables false
open Go.Shelf
def Tryd.lays283_ren : Go.Shelf.Ren := ⟨fun | 283 => 55 | n => n, fun | 3 => 3 | 9 => 9 | 4 => 4 | n => n, fun | n => n⟩
theorem Tryd.lays283 : Go.Proofs.Lays.n283 Tryd.prog Tryd.lays283_ren where
  mixed := by kernel_rfl
  f283 := Tryd.func55.trans (congrArg some (by kernel_rfl))
  t3 := Tryd.underlying3
  a3 := Tryd.isAgg3
  z3 := Tryd.sizeOf3
  v3 := Tryd.zeroValue3
  t4 := Tryd.underlying4
  a4 := Tryd.isAgg4
  z4 := Tryd.sizeOf4
  v4 := Tryd.zeroValue4
  t9 := Tryd.underlying9
  a9 := Tryd.isAgg9
  z9 := Tryd.sizeOf9
  v9 := Tryd.zeroValue9
def Tryd.laysM284_ren : Go.Shelf.Ren := ⟨fun | 284 => 56 | 129 => 60 | 317 => 59 | 318 => 61 | n => n, fun | 53 => 57 | 3 => 3 | 212 => 81 | 0 => 0 | 4 => 4 | 46 => 73 | 5 => 5 | 9 => 9 | n => n, fun | 17 => 0 | n => n⟩
theorem Tryd.laysM284 : Go.Proofs.LaysM.n284 Tryd.prog Tryd.laysM284_ren where
  mixed := by kernel_rfl
  f129 := Tryd.func60.trans (congrArg some (by kernel_rfl))
  f284 := Tryd.func56.trans (congrArg some (by kernel_rfl))
  f317 := Tryd.func59.trans (congrArg some (by kernel_rfl))
  f318 := Tryd.func61.trans (congrArg some (by kernel_rfl))
  t0 := Tryd.underlying0
  a0 := Tryd.isAgg0
  z0 := Tryd.sizeOf0
  v0 := Tryd.zeroValue0
  t3 := Tryd.underlying3
  a3 := Tryd.isAgg3
  z3 := Tryd.sizeOf3
  v3 := Tryd.zeroValue3
  t4 := Tryd.underlying4
  a4 := Tryd.isAgg4
  z4 := Tryd.sizeOf4
  v4 := Tryd.zeroValue4
  t5 := Tryd.underlying5
  a5 := Tryd.isAgg5
  z5 := Tryd.sizeOf5
  v5 := Tryd.zeroValue5
  t9 := Tryd.underlying9
  a9 := Tryd.isAgg9
  z9 := Tryd.sizeOf9
  v9 := Tryd.zeroValue9
  t46 := Tryd.underlying73
  a46 := Tryd.isAgg73
  z46 := Tryd.sizeOf73
  v46 := Tryd.zeroValue73
  t53 := Tryd.underlying57
  a53 := Tryd.isAgg57
  z53 := Tryd.sizeOf57
  v53 := Tryd.zeroValue57
  t212 := Tryd.underlying81
  a212 := Tryd.isAgg81
  z212 := Tryd.sizeOf81
  v212 := Tryd.zeroValue81
  g17 := by kernel_rfl
  i0 := by kernel_rfl
  i3 := by kernel_rfl
  i4 := by kernel_rfl
  i5 := by kernel_rfl
  i9 := by kernel_rfl
  i46 := by kernel_rfl
  i53 := by kernel_rfl
  i212 := by kernel_rfl
  m17 := by kernel_rfl
def Tryd.lays285_ren : Go.Shelf.Ren := ⟨fun | 285 => 57 | n => n, fun | 37 => 22 | 53 => 57 | 3 => 3 | 4 => 4 | 51 => 82 | 9 => 9 | 5 => 5 | 0 => 0 | n => n, fun | n => n⟩
theorem Tryd.lays285 : Go.Proofs.Lays.n285 Tryd.prog Tryd.lays285_ren where
  mixed := by kernel_rfl
  f285 := Tryd.func57.trans (congrArg some (by kernel_rfl))
  t0 := Tryd.underlying0
  a0 := Tryd.isAgg0
  z0 := Tryd.sizeOf0
  v0 := Tryd.zeroValue0
  t3 := Tryd.underlying3
  a3 := Tryd.isAgg3
  z3 := Tryd.sizeOf3
  v3 := Tryd.zeroValue3
  t4 := Tryd.underlying4
  a4 := Tryd.isAgg4
  z4 := Tryd.sizeOf4
  v4 := Tryd.zeroValue4
  t5 := Tryd.underlying5
  a5 := Tryd.isAgg5
  z5 := Tryd.sizeOf5
  v5 := Tryd.zeroValue5
  t9 := Tryd.underlying9
  a9 := Tryd.isAgg9
  z9 := Tryd.sizeOf9
  v9 := Tryd.zeroValue9
  t37 := Tryd.underlying22
  a37 := Tryd.isAgg22
  z37 := Tryd.sizeOf22
  v37 := Tryd.zeroValue22
  t51 := Tryd.underlying82
  a51 := Tryd.isAgg82
  z51 := Tryd.sizeOf82
  v51 := Tryd.zeroValue82
  t53 := Tryd.underlying57
  a53 := Tryd.isAgg57
  z53 := Tryd.sizeOf57
  v53 := Tryd.zeroValue57
end Go.Proofs
namespace Go.Proofs.YtkkfgeekdaalmaaDoor
set_option maxRecDepth 20000
set_option linter.unusedSimpArgs false
set_option linter.unusedVariables false
open Go Go.Fw Go.RowKit Go.Sort
theorem fnc_of_below {P : Program} {f : FuncId} {args : List Value} {w : World} {Ψ : Value → List OB → Prop} {v : Value} (h : Calls P f args.toArray w (fun e w' => e = .returned v ∧ Below w.heap.size w w')) (hv : Ψ v []) : FnC P f args w Ψ :=
  Calls.mono h fun _ _ ⟨h1, h2⟩ => ⟨v, [], [], h1, ⟨h2.os, h2.tape, h2.output, h2.size, fun b hb _ => h2.block b hb, (fun _ h => by cases h), (fun _ h => by cases h), List.nodup_nil⟩, rfl, hv⟩
theorem fnc_of_same {P : Program} {f : FuncId} {args : List Value} {w : World} {Ψ : Value → List OB → Prop} {v : Value} (h : Calls P f args.toArray w (fun e w' => e = .returned v ∧ w' = w)) (hv : Ψ v []) : FnC P f args w Ψ :=
  fnc_of_below (Calls.mono h fun _ _ ⟨h1, h2⟩ => ⟨h1, h2 ▸ Below.refl _ _⟩) hv
theorem bytesOf_append (xs ys : List Int) : bytesOf (xs ++ ys) = bytesOf xs ++ bytesOf ys := by unfold bytesOf; rw [List.map_append]
/-- What the library's tables hold, as far as it is read. -/
structure LT (M : View) : Prop where
  t : ∀ w, View.le M (View.of w) → Lib.TabIs Tryd.prog w "internal/strconv.uint64pow10" .u64 Lib.pow10Tab
theorem LT.mono {M N : View} (h : LT M) (hM : View.le M N) : LT N := ⟨fun w hw => h.t w (View.le.trans hM hw)⟩
theorem txt_step {u : Nat} (h : ¬ u < 10) : txt 10 u = txt 10 (u / 10) ++ [chr (u % 10)] := by
  have h1 := txt_add (b := 10) (A := u / 10) (m := 1) (r := u % 10) (by decide) (by omega) (by omega)
  rw [Nat.pow_one, Nat.div_add_mod] at h1
  rw [h1]
  unfold fixT
  rw [lw_cons, lw_zero, Nat.mod_mod]
  rfl
theorem txt_digit {u : Nat} (h : u < 10) : txt 10 u = [48 + (u : Int)] := by
  rcases Nat.eq_zero_or_pos u with h0 | h0
  · subst h0; rfl
  · rw [txt_pos h0]
    have : nd 10 u = 1 := nd_eq (by decide) (by omega) fun _ => by rw [Nat.sub_self, Nat.pow_zero, Nat.div_one]; omega
    unfold dg
    rw [this, lw_cons, lw_zero, Nat.mod_eq_of_lt h]
    unfold chr
    simp [h]
theorem decDigits_txt (u : Nat) : Lib.decDigits u = bytesOf (txt 10 u) := by
  induction u using Nat.strongRecOn with
  | _ u ih =>
    rw [Lib.decDigits]
    split
    · rename_i h
      rw [txt_digit h]
      unfold bytesOf
      simp only [List.map_cons, List.map_nil]
      congr 2
    · rename_i h
      rw [txt_step h, bytesOf_append, ih (u / 10) (Nat.div_lt_self (by omega) (by decide))]
      congr 1
      unfold bytesOf chr
      rw [if_pos (Nat.mod_lt _ (by decide))]
      simp only [List.map_cons, List.map_nil]
      congr 2
theorem nDigits_nd {u : Nat} (h : 1 ≤ u) : Lib.nDigits u = nd 10 u := by
  induction u using Nat.strongRecOn with
  | _ u ih =>
    rw [Lib.nDigits]
    split
    · rename_i h1
      exact (nd_eq (by decide) (by omega) fun _ => by rw [Nat.sub_self, Nat.pow_zero, Nat.div_one]; omega).symm
    · rename_i h1
      rw [ih (u / 10) (Nat.div_lt_self (by omega) (by decide)) (by omega), ← nd_pos (by decide) (by omega)]
theorem small_spec (w : World) {i : Nat} (h : i < 100) : FnC Tryd.prog 55 [.int .i64 i] w (fun v _ => v = .string (strOf (txt 10 i))) :=
  fnc_of_same (Any.internal_strconv_small Tryd.lays283 i h w) (by rw [decDigits_txt]; rfl)
theorem numDigits_spec {M : View} {w : World} (hM : View.le M (View.of w)) (hL : LT M) {u : Nat} (h : 1 ≤ u) (hu : u < 18446744073709551616) : FnC Tryd.prog 56 [.int .u64 u] w (fun v _ => v = .int .i64 (nd 10 u : Nat)) :=
  fnc_of_same (Any.internal_strconv_numDigits Tryd.laysM284 u h hu w (hL.t w hM)) (by rw [nDigits_nd h])
theorem fixT_at {n u j : Nat} (h : j < n) : (fixT 10 n u)[j]? = some (chr (u / 10 ^ (n - 1 - j) % 10)) := by
  unfold fixT
  rw [List.getElem?_map, List.getElem?_reverse (by rw [lw_length]; exact h), lw_length]
  have h2 : n - 1 - j < (lw 10 n u).length := by rw [lw_length]; omega
  rw [List.getElem?_eq_getElem h2, lw_get]
  rfl
abbrev encB : UInt8 → Value := fun b => Value.int .u8 (b.toNat : Int)
theorem fb_cells {n u v : Nat} {dk : Array UInt8} (hn : n ≤ 24) (h : Lib.FmtInv n u 0 v dk) : (putCells encB 0 dk (flat (eK .u8) (List.replicate 24 0)).toArray).toList = flat (eK .u8) (fixT 10 n u ++ List.replicate (24 - n) 0) := by
  refine List.ext_getElem? fun j => ?_
  unfold putCells
  rw [Array.getElem?_toList, Array.getElem?_mapIdx, flatK_map, flatK_map]
  simp only [List.getElem?_toArray, List.getElem?_map, Nat.zero_le, true_and, Nat.zero_add, Nat.sub_zero, h.size]
  by_cases hj : j < n
  · have h1 : (List.replicate 24 (0 : Int))[j]? = some 0 := by rw [List.getElem?_replicate, if_pos (by omega)]
    rw [h1, List.getElem?_append_left (by rw [fixT_length]; exact hj), fixT_at hj]
    simp only [Option.map_some, if_pos hj]
    rw [h.done j (Nat.zero_le _) hj]
    have hd : u / 10 ^ (n - 1 - j) % 10 < 10 := Nat.mod_lt _ (by decide)
    unfold Lib.dg chr
    generalize u / 10 ^ (n - 1 - j) % 10 = d at *
    rw [if_pos hd]
    refine congrArg some ?_
    show Value.int .u8 (((UInt8.ofNat (48 + d)).toNat : Nat) : Int) = _
    rw [UInt8.toNat_ofNat_of_lt' (show 48 + d < 256 by omega)]
    exact congrArg (Value.int .u8) (by omega)
  · rw [List.getElem?_append_right (by rw [fixT_length]; omega), fixT_length, List.getElem?_replicate, List.getElem?_replicate]
    by_cases hj2 : j < 24
    · rw [if_pos hj2, if_pos (by omega)]
      simp [hj]
    · rw [if_neg hj2, if_neg (by omega)]
      rfl
attribute [local irreducible] Calls flat
theorem fb10_spec {w : World} {b n u : Nat} (hok : OB.ok ⟨some b, flat (eK .u8) (List.replicate 24 0), 74⟩ w) (hn : n ≤ 24) (hu : u < 10 ^ n) (hu64 : u < 18446744073709551616) :
    Ret Tryd.prog 57 [.slice (some ⟨b, 0, none⟩) n 24, .int .u64 u] w (fun v m new => ∃ cs', m = [⟨some b, cs', 74⟩] ∧ cs' = flat (eK .u8) (fixT 10 n u ++ List.replicate (24 - n) 0) ∧ v = .tuple #[]) := by
  have hs : (Array.replicate n (0 : UInt8)).size = n := Array.size_replicate
  have hH : Holds encB w b 0 (Array.replicate n (0 : UInt8)) := by
    intro j hj
    rw [hs] at hj
    have hl : j < (flat (eK .u8) (List.replicate 24 0)).length := by rw [flatK_length, List.length_replicate]; omega
    rw [Nat.zero_add]
    refine ⟨?_, not_frozen hok hl⟩
    refine cell_of_ok hok ?_
    rw [flatK_map, List.getElem?_map, List.getElem?_replicate, if_pos (by omega), getElem!_pos _ j (by rw [hs]; exact hj), Array.getElem_replicate]
    rfl
  have h := Any.internal_strconv_formatBase10 Tryd.lays285 b 0 24 u (Array.replicate n (0 : UInt8)) w hH (by rw [hs]; exact hu) hu64 (by rw [hs]; omega)
  rw [hs] at h
  refine Ret.mono (ret_of_putRow (enc := encB) (Q := fun dk => ∃ v', Lib.FmtInv n u 0 v' dk) (res := .tuple #[]) hok (Calls.mono h fun e w' ⟨h1, k, v', dk, h2, h3⟩ => ⟨h1, dk, w', by rw [h2]; rfl, by rw [h2]; rfl, by rw [h2]; rfl, by rw [h2]; rfl, rfl, v', h3⟩)) ?_
  rintro v m new ⟨cs', rfl, rfl, rfl, dk, ⟨v', h3⟩, rfl⟩
  exact ⟨_, rfl, fb_cells hn h3, rfl⟩
end Go.Proofs.YtkkfgeekdaalmaaDoor
namespace Go.Proofs.YtkkfgeekdaalmaaDoor
set_option maxRecDepth 20000
set_option linter.unusedSimpArgs false
set_option linter.unusedVariables false
open Go Go.Fw
/-- The row that is handed back: all is written. -/
def TA (A : Option Addr) (out e : List Int) (v : Value) (y : OB) : Prop :=
  ∃ r' cap' sp', v = .slice (base r' A) (out.length + e.length) cap' ∧ y = ⟨r', flat (eK .u8) (out ++ e) ++ sp', 5⟩ ∧ SO r' (out.length + e.length) cap' (flat (eK .u8) (out ++ e)) sp' 1
def itx (n : Int) : List Int := if n < 0 then 45 :: txt 10 (-n).toNat else txt 10 n.toNat
theorem flat_app1 (a b : List Int) : flat (eK .u8) (a ++ b) = flat (eK .u8) a ++ flat (eK .u8) b := flat_append _ _ _
end Go.Proofs.YtkkfgeekdaalmaaDoor
namespace Go.Proofs.YtkkfgeekdaalmaaDoor
set_option maxRecDepth 20000
set_option linter.unusedSimpArgs false
set_option linter.unusedVariables false
open Go Go.Fw
attribute [local irreducible] CW OL OD FX Stp FnC FnV FnA Ret strOf txt fixT flat
set_option maxHeartbeats 1600000
theorem auint_spec {M : View} {w : World} (hM : View.le M (View.of w)) (hL : LT M) {u : Nat} (hu : u < 18446744073709551616) {r : Option Nat} {A : Option Addr} {cap n : Nat} {out : List Int} {sp : List Value} (hr : ∀ b, r = some b → M b = none) (ho : OB.ok ⟨r, flat (eK .u8) out ++ sp, 5⟩ w) (so : SO r n cap (flat (eK .u8) out) sp 1) (hn : out.length = n) (hn2 : n ≤ 1073741824) :
    FnA Tryd.prog 54 [.slice (base r A) n cap, .int .u64 u, .int .i64 10] w ⟨r, flat (eK .u8) out ++ sp, 5⟩ (TA A out (txt 10 u)) := by
  unfold TA
  rw [hn]
  refine enterA (M := M) Tryd.func54 rfl rfl rfl rfl hM ho hr ?_
  have hb := txt_b (b := 10) (by decide) (by decide) u
  have hln := txt_len_le (b := 10) (n := u) (k := 20) (by decide) (by decide) (by omega)
  by_cases h1 : u < 100
  · have ks := fun (w' : World) => small_spec w' h1
    repeat' first
      | apply cw_seq
      | (refine cw_region_id 0 ?_; (apply ol_as; rfl; rfl); (apply ol_nil))
      | (refine cw_region_id 1 ?_; (apply ol_mv; rfl; rfl); (apply ol_val; rfl; apply stp_cmp; apply s_eql; rfl; rfl; all_goals (intro hc10; try (exfalso; (first | exact hc10 rfl | omega)))); all_goals (apply ol_nil))
      | (refine cw_region_id 2 ?_; (apply ol_mv; rfl; rfl); (apply ol_val; rfl; apply stp_cmp; apply s_lss; rfl; rfl; all_goals (intro hc12; try (exfalso; (first | exact hc12 rfl | omega)))); all_goals (apply ol_nil))
      | (refine cw_region_id 3 ?_; (apply ol_mv; rfl; rfl); (apply ol_mv; rfl; rfl); (apply ol_val; rfl; apply stp_pur; first | (apply s_conv; rfl; rfl; exact ti_3; (focus (apply wrap_i64; omega))) | (apply s_conv; rfl; rfl; exact ti_3; rfl)); (apply ol_val; rfl; apply s_callv; rfl; exact gf_55; (intro w' hw'; exact ks w')); (apply ol_val; rfl; apply s_append_s; rfl; rfl; assumption; exact qN; (first | rfl | exact (List.append_nil _).symm); exact el_22; exact us_9; exact sz_5; exact zb_5; rfl; exact by_5; (first | exact SO.nil _ | assumption | (exact ⟨by simp, by simp, Nat.le_refl _, by simp⟩)); exact qO; exact qO; intro rk17 sk17 ck17 ok17); (apply ol_as; rfl; rfl); (apply ol_nil))
      | (apply cw_cond_true; rfl; exact qA)
      | (apply cw_cond_false; rfl; exact qA)
      | apply cw_skip
      | apply cw_ret
      | apply cw_block
      | apply cw_exit
    refine endsA ⟨rk17, flat (eK .u8) (out ++ txt 10 u) ++ sk17, 5⟩ (RVal.tmp rfl RVal.nil) (by rw [flat_app1 out]; exact qK) ?_
    exact ⟨rk17, ck17, sk17, rfl, rfl, by rw [flat_app1]; exact ok17⟩
  · have kn := fun (w' : World) (h : View.le M (View.of w')) => numDigits_spec h hL (u := u) (by omega) hu
    have hn24 : nd 10 u ≤ 20 := nd_le (by decide) (by omega)
    have hlt := nd_lt (b := 10) (by decide) u
    have htx : txt 10 u = fixT 10 (nd 10 u) u := by rw [txt_pos (by omega)]; unfold fixT dg; rfl
    rw [htx]
    clear hln hb
    generalize nd 10 u = m at *
    have hFl := fixT_length 10 m u
    have kf := fun (w' : World) (b : Nat) (hok : OB.ok ⟨some b, flat (eK .u8) (List.replicate 24 0), 74⟩ w') => fb10_spec hok (show m ≤ 24 by omega) hlt hu
    have hsp : ∀ (b : Nat), slicedP b 0 0 24 1 = ⟨b, 0, none⟩ := fun b => by unfold slicedP; rw [if_neg (by decide)]
    repeat' first
      | apply cw_seq
      | (refine cw_region_id 0 ?_; (apply ol_as; rfl; rfl); (apply ol_nil))
      | (refine cw_region_id 1 ?_; (apply ol_mv; rfl; rfl); (apply ol_val; rfl; apply stp_cmp; apply s_eql; rfl; rfl; all_goals (intro hc10; try (exfalso; (first | exact hc10 rfl | omega)))); all_goals (apply ol_nil))
      | (refine cw_region_id 2 ?_; (apply ol_mv; rfl; rfl); (apply ol_val; rfl; apply stp_cmp; apply s_lss; rfl; rfl; all_goals (intro hc12; try (exfalso; (first | exact hc12 rfl | omega)))); all_goals (apply ol_nil))
      | (refine cw_region_id 4 ?_; (apply ol_val; rfl; apply s_allocK; exact zk_74; intro bk7); (apply ol_nil))
      | (refine cw_region_id 5 ?_; (apply ol_mv; rfl; rfl); (apply ol_val; rfl; apply s_callv; rfl; exact gf_56; (intro w' hw'; exact kn w' hw'.le)); (apply ol_as; rfl; rfl); (apply ol_nil))
      | (refine cw_region_id 6 ?_; (apply ol_mv; rfl; rfl); (apply ol_val; rfl; apply stp_pur; apply s_sliceP; rfl; exact ar_74; exact sz_5; rfl; (first | exact ⟨.i64, rfl⟩ | exact Exists.intro _ rfl); rfl; (intro h; first | rfl | cases h); exact qO; exact qO; exact qO); (apply ol_mv; rfl; rfl); (apply ol_val; rfl; apply s_callm; rfl; exact gf_57; (intro w' hw'; exact kf w' _ (hw'.ok_ (by (repeat (first | exact Has.here | apply Has.there))))); exact qN; ((intro v cs' new h; obtain ⟨rfl, rfl⟩ := h))); (apply ol_nil))
      | (refine cw_region_id 7 ?_; (apply ol_mv; rfl; rfl); (apply ol_mv; rfl; rfl); (apply ol_val; rfl; apply stp_pur; apply s_sliceP; rfl; exact ar_74; exact sz_5; rfl; (first | exact ⟨.i64, rfl⟩ | exact Exists.intro _ rfl); rfl; (intro h; first | rfl | cases h); exact qO; exact qO; exact qO); (apply ol_val; rfl; apply s_append_r; rfl; rfl; exact qS; rfl; exact el_22; exact sz_5; exact zb_5; rfl; exact by_5; exact so; exact fun _ => congrArg some (hsp _); (apply RdN.own; (repeat (first | exact Has.here | apply Has.there)); (rw [flat_app1, Nat.mul_one]; exact getNK_n hFl)); exact flatK_ones; omega; omega; (intro rk27 sk27 ck27 ok27)); all_goals (apply ol_as; rfl; rfl); all_goals (apply ol_nil))
      | (apply cw_cond_true; rfl; exact qA)
      | (apply cw_cond_false; rfl; exact qA)
      | apply cw_skip
      | apply cw_ret
      | apply cw_block
      | apply cw_exit
    refine endsA ⟨rk27, flat (eK .u8) (out ++ fixT 10 m u) ++ sk27, 5⟩ (RVal.tmp rfl RVal.nil) (by rw [flat_app1 out]; exact qK) ?_
    exact ⟨rk27, ck27, sk27, by rw [hFl]; rfl, rfl, by rw [flat_app1, hFl]; exact ok27⟩
theorem aint_spec {M : View} {w : World} (hM : View.le M (View.of w)) (hL : LT M) {v : Int} (hv : -9223372036854775808 ≤ v ∧ v < 9223372036854775808) {r : Option Nat} {A : Option Addr} {cap n : Nat} {out : List Int} {sp : List Value} (hr : ∀ b, r = some b → M b = none) (ho : OB.ok ⟨r, flat (eK .u8) out ++ sp, 5⟩ w) (so : SO r n cap (flat (eK .u8) out) sp 1) (hn : out.length = n) (hn2 : n ≤ 1073741800) :
    FnA Tryd.prog 53 [.slice (base r A) n cap, .int .i64 v, .int .i64 10] w ⟨r, flat (eK .u8) out ++ sp, 5⟩ (TA A out (itx v)) := by
  refine enterA (M := M) Tryd.func53 rfl rfl rfl rfl hM ho hr ?_
  unfold itx
  by_cases hv0 : v < 0
  · rw [if_pos hv0]
    have hf1 : flat (eK .u8) (out ++ [45]) = flat (eK .u8) out ++ [.int .u8 45] := by rw [flat_append, flat_one]
    have hl1 : (out ++ [45]).length = n + 1 := by rw [List.length_append, hn]; rfl
    have hu := (u64_cast v).symm
    have hneg : IntKind.u64.wrap (0 - IntKind.u64.wrap v) = (((-v).toNat : Nat) : Int) := by
      rw [wrapU64, wrapU64]; omega
    have ku := fun (w' : World) (h : View.le M (View.of w')) (r : Option Nat) (c : Nat) (sp : List Value) (so : SO r (n + 1) c (flat (eK .u8) out ++ [.int .u8 45]) sp 1) (hr : ∀ b, r = some b → M b = none) (ho : OB.ok ⟨r, flat (eK .u8) out ++ [.int .u8 45] ++ sp, 5⟩ w') => auint_spec (A := A) h hL (u := (-v).toNat) (by omega) hr (by rw [hf1]; exact ho) (by rw [hf1]; exact so) hl1 (by omega)
    rw [hf1, ← hneg] at ku
    clear hneg
    unfold TA at ku
    rw [hl1] at ku
    unfold TA
    repeat' first
      | apply cw_seq
      | (refine cw_region_id 0 ?_; (apply ol_as; rfl; rfl); (apply ol_nil))
      | (refine cw_region_id 1 ?_; (apply ol_mv; rfl; rfl); (apply ol_val; rfl; apply stp_pur; first | (apply s_conv; rfl; rfl; exact ti_57; (focus (apply wrap_u64; omega))) | (apply s_conv; rfl; rfl; exact ti_57; rfl)); (apply ol_as; rfl; rfl); (apply ol_nil))
      | (refine cw_region_id 2 ?_; (apply ol_mv; rfl; rfl); (apply ol_val; rfl; apply stp_cmp; apply s_lss; rfl; rfl; all_goals (intro hc11; try (exfalso; (first | exact hc11 rfl | omega)))); all_goals (apply ol_nil))
      | (refine cw_region_id 3 ?_; (apply ol_mv; rfl; rfl); (apply ol_val; rfl; apply s_buildSl; rfl; exact el_22; exact sz_5; exact zb_5; exact qN; rfl; rfl; (exact Nat.le_of_ble_eq_true rfl); exact qN; exact qR; intro bk13); (apply ol_val; rfl; first | (apply s_append_e; rfl; rfl; exact qN; exact el_22; exact sz_5; exact zb_5; rfl; exact by_5; (first | exact (fun _ => rfl)); (first | exact qQ); (first | rfl); exact qO; exact qO; intro rk14 sk14 ck14 ok14) | (apply s_append_r; rfl; rfl; exact qN; (first | rfl | exact (List.append_nil _).symm); exact el_22; exact sz_5; exact zb_5; rfl; exact by_5; (first | exact SO.nil _ | assumption | (exact ⟨by simp, by simp, Nat.le_refl _, by simp⟩)); (first | exact (fun _ => rfl)); (first | exact qQ); (first | rfl); exact qO; exact qO; intro rk14 sk14 ck14 ok14) | (apply s_append_b; rfl; rfl; exact qN; (first | rfl | exact (List.append_nil _).symm); exact el_22; exact sz_5; exact zb_5; rfl; exact by_5; (first | exact SO.nil _ | assumption | (exact ⟨by simp, by simp, Nat.le_refl _, by simp⟩)); (first | exact (fun _ => rfl)); (first | exact qQ); (first | rfl); exact qO; exact qO; intro rk14 sk14 ck14 ok14) | (apply s_append_n; rfl; rfl; exact qN; exact el_22; exact sz_5; exact zb_5; rfl; exact by_5; (first | exact (fun _ => rfl)); (first | exact qQ); (first | rfl); exact qO; exact qO; intro rk14 sk14 ck14 ok14)); (apply ol_as; rfl; rfl); (apply ol_nil))
      | (refine cw_region_id 4 ?_; (apply ol_mv; rfl; rfl); (apply ol_val; rfl; apply stp_pur; apply s_negW; rfl); (apply ol_as; rfl; rfl); (apply ol_nil))
      | (apply cw_cond_true; rfl; exact qA)
      | (apply cw_cond_false; rfl; exact qA)
      | apply cw_skip
      | apply cw_ret
      | apply cw_exit
    refine cw_pick (own' := [⟨rk14, flat (eK .u8) out ++ [.int .u8 45] ++ sk14, 5⟩]) (by exact qK) ?_
    repeat' first
      | apply cw_seq
      | (refine cw_region_id 5 ?_; (apply ol_mv; rfl; rfl); (apply ol_mv; rfl; rfl); (apply ol_mv; rfl; rfl); (apply ol_val; rfl; (apply s_callA; rfl; exact gf_54; (intro w' hw'; exact ku w' hw'.le rk14 ck14 sk14 ok14 (hw'.sep_ (x := ⟨rk14, flat (eK .u8) out ++ [.int .u8 45] ++ sk14, 5⟩) (by (repeat (first | exact Has.here | apply Has.there)))) (hw'.ok_ (by (repeat (first | exact Has.here | apply Has.there))))); exact qS; (intro v y h; obtain ⟨r2, cap2, sp2, rfl, rfl, so2⟩ := h))); all_goals (apply ol_as; rfl; rfl); all_goals (apply ol_nil))
      | (apply cw_cond_true; rfl; exact qA)
      | (apply cw_cond_false; rfl; exact qA)
      | apply cw_skip
      | apply cw_ret
      | apply cw_block
      | apply cw_exit
    have e2 : n + 1 + (txt 10 (-v).toNat).length = out.length + (45 :: txt 10 (-v).toNat).length := by rw [List.length_cons]; omega
    have e3 : out ++ [45] ++ txt 10 (-v).toNat = out ++ 45 :: txt 10 (-v).toNat := by rw [List.append_assoc]; rfl
    rw [e2, e3] at so2
    rw [e2, e3]
    refine endsA ⟨r2, flat (eK .u8) (out ++ 45 :: txt 10 (-v).toNat) ++ sp2, 5⟩ (RVal.tmp rfl RVal.nil) (by exact qK) ?_
    exact ⟨r2, cap2, sp2, rfl, rfl, so2⟩
  · rw [if_neg hv0]
    have ku := fun (w' : World) (h : View.le M (View.of w')) (hr : ∀ b, r = some b → M b = none) (ho : OB.ok ⟨r, flat (eK .u8) out ++ sp, 5⟩ w') => auint_spec (A := A) h hL (u := v.toNat) (by omega) hr ho so hn (by omega)
    rw [show ((v.toNat : Nat) : Int) = v by omega] at ku
    unfold TA at ku ⊢
    repeat' first
      | apply cw_seq
      | (refine cw_region_id 0 ?_; (apply ol_as; rfl; rfl); (apply ol_nil))
      | (refine cw_region_id 1 ?_; (apply ol_mv; rfl; rfl); (apply ol_val; rfl; apply stp_pur; first | (apply s_conv; rfl; rfl; exact ti_57; (focus (apply wrap_u64; omega))) | (apply s_conv; rfl; rfl; exact ti_57; rfl)); (apply ol_as; rfl; rfl); (apply ol_nil))
      | (refine cw_region_id 2 ?_; (apply ol_mv; rfl; rfl); (apply ol_val; rfl; apply stp_cmp; apply s_lss; rfl; rfl; all_goals (intro hc11; try (exfalso; (first | exact hc11 rfl | omega)))); all_goals (apply ol_nil))
      | (refine cw_region_id 5 ?_; (apply ol_mv; rfl; rfl); (apply ol_mv; rfl; rfl); (apply ol_mv; rfl; rfl); (apply ol_val; rfl; (apply s_callA; rfl; exact gf_54; (intro w' hw'; exact ku w' hw'.le (hw'.sep_ (x := ⟨r, flat (eK .u8) out ++ sp, 5⟩) (by (repeat (first | exact Has.here | apply Has.there)))) (hw'.ok_ (by (repeat (first | exact Has.here | apply Has.there))))); exact qS; (intro v y h; obtain ⟨r2, cap2, sp2, rfl, rfl, so2⟩ := h))); all_goals (apply ol_as; rfl; rfl); all_goals (apply ol_nil))
      | (apply cw_cond_true; rfl; exact qA)
      | (apply cw_cond_false; rfl; exact qA)
      | apply cw_skip
      | apply cw_ret
      | apply cw_block
      | apply cw_exit
    refine endsA _ (RVal.tmp rfl RVal.nil) (by exact qK) ?_
    exact ⟨r2, cap2, sp2, rfl, rfl, so2⟩
theorem sint_spec {M : View} {w : World} (hM : View.le M (View.of w)) (hL : LT M) {v : Int} (hv : -9223372036854775808 ≤ v ∧ v < 9223372036854775808) {r : Option Nat} {A : Option Addr} {cap n : Nat} {out : List Int} {sp : List Value} (hr : ∀ b, r = some b → M b = none) (ho : OB.ok ⟨r, flat (eK .u8) out ++ sp, 5⟩ w) (so : SO r n cap (flat (eK .u8) out) sp 1) (hn : out.length = n) (hn2 : n ≤ 1073741800) :
    FnA Tryd.prog 52 [.slice (base r A) n cap, .int .i64 v, .int .i64 10] w ⟨r, flat (eK .u8) out ++ sp, 5⟩ (TA A out (itx v)) := by
  have ku := fun (w' : World) (h : View.le M (View.of w')) (hr : ∀ b, r = some b → M b = none) (ho : OB.ok ⟨r, flat (eK .u8) out ++ sp, 5⟩ w') => aint_spec (A := A) h hL hv hr ho so hn hn2
  refine enterA (M := M) Tryd.func52 rfl rfl rfl rfl hM ho hr ?_
  unfold TA at ku ⊢
  repeat' first
    | apply cw_seq
    | (refine cw_region_id 0 ?_; (apply ol_as; rfl; rfl); (apply ol_nil))
    | (refine cw_region_id 1 ?_; (apply ol_mv; rfl; rfl); (apply ol_mv; rfl; rfl); (apply ol_mv; rfl; rfl); (apply ol_val; rfl; (apply s_callA; rfl; exact gf_53; (intro w' hw'; exact ku w' hw'.le (hw'.sep_ (x := ⟨r, flat (eK .u8) out ++ sp, 5⟩) (by (repeat (first | exact Has.here | apply Has.there)))) (hw'.ok_ (by (repeat (first | exact Has.here | apply Has.there))))); exact qS; (intro v y h; obtain ⟨r2, cap2, sp2, rfl, rfl, so2⟩ := h))); all_goals (apply ol_as; rfl; rfl); all_goals (apply ol_nil))
    | (apply cw_cond_true; rfl; exact qA)
    | (apply cw_cond_false; rfl; exact qA)
    | apply cw_skip
    | apply cw_ret
    | apply cw_block
    | apply cw_exit
  refine endsA _ (RVal.tmp rfl RVal.nil) (by exact qK) ?_
  exact ⟨r2, cap2, sp2, rfl, rfl, so2⟩
end Go.Proofs.YtkkfgeekdaalmaaDoor
namespace Go.Proofs.YtkkfgeekdaalmaaDoor
set_option maxRecDepth 20000
set_option linter.unusedSimpArgs false
set_option linter.unusedVariables false
open Go Go.Fw
def hexB (x : Int) : List Int := [chr (x.toNat / 16), chr (x.toNat % 16)]
theorem hexB_length (x : Int) : (hexB x).length = 2 := rfl
theorem hexs_length (xs : List Int) : (xs.flatMap hexB).length = 2 * xs.length := by
  induction xs with
  | nil => rfl
  | cons x r ih => rw [List.flatMap_cons, List.length_append, ih, List.length_cons, hexB_length]; omega
def txH (h : Hd) : List Int := if h.k = 1 then itx h.n else 120 :: h.B.xs.flatMap hexB
/-- Texts with spaces between them. -/
def jn (l : List (List Int)) : List Int := (l.flatMap fun x => 32 :: x).tail
theorem jn_nil : jn [] = [] := rfl
theorem jn_one (b : List Int) : jn [b] = b := by unfold jn; simp
theorem jn_snoc {l : List (List Int)} (h : l ≠ []) (b : List Int) : jn (l ++ [b]) = jn l ++ 32 :: b := by
  cases l with
  | nil => exact absurd rfl h
  | cons a r => unfold jn; simp
def txI : (d : Nat) → It d → List Int
  | 0, h => txH h
  | d + 1, (h, L) => if h.k = 3 then 40 :: (jn (L.map (txI d)) ++ [41]) else txH h
theorem txI_leaf {d : Nat} {x : It d} (h3 : x.hd.k ≠ 3 ∨ d = 0) : txI d x = txH x.hd := by
  cases d with
  | zero => rfl
  | succ d =>
    have h : ¬ x.1.k = 3 := by rcases h3 with h | h; exact h; omega
    show (if x.1.k = 3 then _ else txH x.1) = _
    rw [if_neg h]
    rfl
theorem txI_list {d : Nat} {h : Hd} {L : List (It d)} (h3 : h.k = 3) : txI (d + 1) (h, L) = 40 :: (jn (L.map (txI d)) ++ [41]) := by
  show (if h.k = 3 then _ else txH h) = _
  rw [if_pos h3]
theorem txH_1 {h : Hd} (e : h.k = 1) : txH h = itx h.n := by unfold txH; rw [if_pos e]
theorem txH_2 {h : Hd} (e : h.k = 2) : txH h = 120 :: h.B.xs.flatMap hexB := by unfold txH; rw [if_neg (by omega)]
abbrev hexS : ByteArray := ⟨#[48, 49, 50, 51, 52, 53, 54, 55, 56, 57, 97, 98, 99, 100, 101, 102]⟩
theorem hex_in {i : Nat} (h : i < 16) : 0 ≤ (i : Int) ∧ (i : Int) < (hexS.size : Int) := ⟨by omega, by show (i : Int) < 16; omega⟩
theorem hex_at0 : ∀ i, i < 16 → ((hexS.data.toList.getD i 0).toNat : Int) = chr i := by decide
theorem hex_at {i : Nat} (h : i < 16) : ((hexS.data.toList.getD (i : Int).toNat 0).toNat : Int) = chr i := hex_at0 i h
theorem and15_0 : ∀ x : Nat, x < 256 → Go.bits .and .u8 (x : Int) 15 = ((x % 16 : Nat) : Int) := by decide +kernel
theorem and15 {x : Int} (h : 0 ≤ x ∧ x ≤ 255) : Go.bits .and .u8 x 15 = ((x.toNat % 16 : Nat) : Int) := by
  have := and15_0 x.toNat (by omega)
  rwa [Int.toNat_of_nonneg h.1] at this
structure TSt where
  i : Nat
  r : Option Nat
  c : Nat
  sp : List Value
end Go.Proofs.YtkkfgeekdaalmaaDoor
namespace Go.Proofs.YtkkfgeekdaalmaaDoor
set_option maxRecDepth 20000
set_option linter.unusedSimpArgs false
set_option linter.unusedVariables false
open Go Go.Fw
attribute [local irreducible] CW OL OD FX Stp FnC FnV FnA Ret strOf txt itx
set_option maxHeartbeats 1600000
theorem text_leaf {M : View} {w : World} (hM : View.le M (View.of w)) (hL : LT M) {d : Nat} {x : It d} (hv : HdV M x.hd) (hnr : -9223372036854775808 ≤ x.hd.n ∧ x.hd.n < 9223372036854775808) (hkk : x.hd.k = 1 ∨ x.hd.k = 2) {r : Option Nat} {A : Option Addr} {cap n : Nat} {out : List Int} {sp : List Value} (hr : ∀ b, r = some b → M b = none) (ho : OB.ok ⟨r, flat (eK .u8) out ++ sp, 5⟩ w) (so : SO r n cap (flat (eK .u8) out) sp 1) (hn : out.length = n) (hn2 : n + (txH x.hd).length ≤ 1073741000) :
    FnA Tryd.prog 44 [.slice (base r A) n cap, .agg x.enc.toArray] w ⟨r, flat (eK .u8) out ++ sp, 5⟩ (TA A out (txH x.hd)) := by
  have e1 := txH_1 (h := x.hd)
  have e2 := txH_2 (h := x.hd)
  unfold It.enc
  generalize x.hd = h at *
  obtain ⟨k, nn, ⟨xs, Ba, Bb, Bo, Bc⟩, La, Lb, Lo, Lc, m⟩ := h
  dsimp only at hkk e1 e2 hnr ⊢
  obtain ⟨hvB, hvb, hvl, _⟩ := hv
  dsimp only at hvB hvb hvl
  refine enterA (M := M) Tryd.func44 rfl rfl rfl rfl hM ho hr ?_
  rcases hkk with rfl | rfl
  · rw [e1 rfl] at hn2 ⊢
    have ku := fun (w' : World) (h : View.le M (View.of w')) (hr : ∀ b, r = some b → M b = none) (ho : OB.ok ⟨r, flat (eK .u8) out ++ sp, 5⟩ w') => sint_spec (A := A) h hL hnr hr ho so hn (by omega)
    unfold TA at ku ⊢
    repeat' first
      | apply cw_seq
      | (refine cw_region_id 0 ?_; (apply ol_val; rfl; first | (apply s_boxN; rfl; intro bk3) | (apply s_box1; rfl; rfl; intro bk3)); (apply ol_as; rfl; rfl); (apply ol_nil))
      | (refine cw_region_id 1 ?_; (apply ol_fa; rfl; rfl; exact fd_25_0; exact qZ); (apply ol_ld; rfl; rfl; rfl; exact qP); (apply ol_nil))
      | (refine cw_region_id 2 ?_; (apply ol_val; rfl; apply stp_cmp; apply s_eql; rfl; rfl; all_goals (intro hc12; try (exfalso; (first | exact hc12 rfl | omega)))); all_goals (apply ol_as; rfl; rfl); all_goals (apply ol_nil))
      | (refine cw_region_id 3 ?_; (apply ol_mv; rfl; rfl); (apply ol_fa; rfl; rfl; exact fd_25_1; exact qZ); (apply ol_ld; rfl; rfl; rfl; exact qP); (apply ol_val; rfl; (apply s_callA; rfl; exact gf_52; (intro w' hw'; exact ku w' hw'.le (hw'.sep_ (x := ⟨r, flat (eK .u8) out ++ sp, 5⟩) (by (repeat (first | exact Has.here | apply Has.there)))) (hw'.ok_ (by (repeat (first | exact Has.here | apply Has.there))))); exact qS; (intro v y h; obtain ⟨r2, cap2, sp2, rfl, rfl, so2⟩ := h))); all_goals (apply ol_as; rfl; rfl); all_goals (apply ol_nil))
      | (apply cw_cond_true; rfl; exact qA)
      | (apply cw_cond_false; rfl; exact qA)
      | apply cw_skip
      | apply cw_ret
      | apply cw_block
      | apply cw_exit
    refine endsA ⟨r2, flat (eK .u8) (out ++ itx nn) ++ sp2, 5⟩ (RVal.tmp rfl RVal.nil) (by exact qK) ?_
    exact ⟨r2, cap2, sp2, rfl, rfl, so2⟩
  · rw [e2 rfl] at hn2 ⊢
    rw [List.length_cons, hexs_length] at hn2
    have hf1 : flat (eK .u8) (out ++ [120]) = flat (eK .u8) out ++ [.int .u8 120] := by rw [flat_append, flat_one]
    repeat' first
      | apply cw_seq
      | (refine cw_region_id 0 ?_; (apply ol_val; rfl; first | (apply s_boxN; rfl; intro bk3) | (apply s_box1; rfl; rfl; intro bk3)); (apply ol_as; rfl; rfl); (apply ol_nil))
      | (refine cw_region_id 1 ?_; (apply ol_fa; rfl; rfl; exact fd_25_0; exact qZ); (apply ol_ld; rfl; rfl; rfl; exact qP); (apply ol_nil))
      | (refine cw_region_id 2 ?_; (apply ol_val; rfl; apply stp_cmp; apply s_eql; rfl; rfl; all_goals (intro hc12; try (exfalso; (first | exact hc12 rfl | omega)))); all_goals (apply ol_as; rfl; rfl); all_goals (apply ol_nil))
      | (refine cw_region_id 4 ?_; (apply ol_val; rfl; apply stp_cmp; apply s_eql; rfl; rfl; all_goals (intro hc18; try (exfalso; (first | exact hc18 rfl | omega)))); all_goals (apply ol_as; rfl; rfl); all_goals (apply ol_nil))
      | (refine cw_region_id 5 ?_; (apply ol_mv; rfl; rfl); (apply ol_val; rfl; apply s_buildSl; rfl; exact el_22; exact sz_5; exact zb_5; exact qN; rfl; rfl; (exact Nat.le_of_ble_eq_true rfl); exact qN; exact qR; intro bk20); (apply ol_val; rfl; first | (apply s_append_e; rfl; rfl; exact qN; exact el_22; exact sz_5; exact zb_5; rfl; exact by_5; (first | exact (fun _ => rfl)); (first | exact qQ); (first | rfl); exact qO; exact qO; intro rk21 sk21 ck21 ok21) | (apply s_append_r; rfl; rfl; exact qN; (first | rfl | exact (List.append_nil _).symm); exact el_22; exact sz_5; exact zb_5; rfl; exact by_5; (first | exact SO.nil _ | assumption | (exact ⟨by simp, by simp, Nat.le_refl _, by simp⟩)); (first | exact (fun _ => rfl)); (first | exact qQ); (first | rfl); exact qO; exact qO; intro rk21 sk21 ck21 ok21) | (apply s_append_b; rfl; rfl; exact qN; (first | rfl | exact (List.append_nil _).symm); exact el_22; exact sz_5; exact zb_5; rfl; exact by_5; (first | exact SO.nil _ | assumption | (exact ⟨by simp, by simp, Nat.le_refl _, by simp⟩)); (first | exact (fun _ => rfl)); (first | exact qQ); (first | rfl); exact qO; exact qO; intro rk21 sk21 ck21 ok21) | (apply s_append_n; rfl; rfl; exact qN; exact el_22; exact sz_5; exact zb_5; rfl; exact by_5; (first | exact (fun _ => rfl)); (first | exact qQ); (first | rfl); exact qO; exact qO; intro rk21 sk21 ck21 ok21)); (apply ol_as; rfl; rfl); (apply ol_nil))
      | (refine cw_region_id 6 ?_; (apply ol_fa; rfl; rfl; exact fd_25_2; exact qZ); (apply ol_ld; rfl; rfl; rfl; exact qP); (apply ol_val; rfl; apply stp_pur; apply s_len; rfl; exact el_22); (apply ol_mv; rfl; rfl); (apply ol_nil))
      | (apply cw_cond_true; rfl; exact qA)
      | (apply cw_cond_false; rfl; exact qA)
      | apply cw_skip
      | apply cw_ret
      | apply cw_block
      | apply cw_exit
    refine cw_loopK (σ := TSt) [23, 24] (by (repeat (first | exact Keep.nil | (apply Keep.cons; rfl)))) (fun s => [(0, .slice (base s.r A) (n + 1 + 2 * s.i) s.c), (25, .int .i64 s.i)]) (fun _ => M) (fun s => [⟨s.r, flat (eK .u8) (out ++ 120 :: (xs.take s.i).flatMap hexB) ++ s.sp, 5⟩, ⟨some bk3, [.int .i64 2, .int .i64 nn, .slice Ba xs.length Bc, .slice La m Lc], 25⟩]) (fun s => s.i ≤ xs.length ∧ SO s.r (n + 1 + 2 * s.i) s.c (flat (eK .u8) (out ++ 120 :: (xs.take s.i).flatMap hexB)) s.sp 1) (fun s => xs.length - s.i) ⟨0, rk21, ck21, sk21⟩ (by (repeat (first | exact trivial | refine And.intro rfl ?_))) (View.le.refl _) (by dsimp only; rw [List.take_zero, List.flatMap_nil, hf1]; exact qK) ⟨Nat.zero_le _, by dsimp only; rw [List.take_zero, List.flatMap_nil, hf1]; exact ok21⟩ ?_
    rintro ⟨i, r3, c3, sp3⟩ ⟨hi, so3⟩
    dsimp only at hi so3
    dsimp only
    by_cases him : i < xs.length
    · have hci := hvB.cells i him
      have hfm := flatMap_take_succ hexB him
      have hxb := hvb _ (List.getElem_mem him)
      have hfl : flat (eK .u8) (out ++ 120 :: (xs.take (i + 1)).flatMap hexB) = flat (eK .u8) (out ++ 120 :: (xs.take i).flatMap hexB) ++ [.int .u8 (chr ((xs[i]'him).toNat / 16)), .int .u8 (chr ((xs[i]'him).toNat % 16))] := by
        rw [hfm, ← List.cons_append, ← List.append_assoc, flat_append]
        rfl
      generalize out ++ 120 :: (xs.take i).flatMap hexB = Y at *
      have hsr : (xs[i]'him) / 2 ^ (4 : Int).toNat = (((xs[i]'him).toNat / 16 : Nat) : Int) := by
        rw [show (2 : Int) ^ (4 : Int).toNat = 16 from rfl]; omega
      have hbt : Go.bits .and .u8 (xs[i]'him) 15 = (((xs[i]'him).toNat % 16 : Nat) : Int) := and15 hxb
      have hi1 : (xs[i]'him).toNat / 16 < 16 := by omega
      have hi2 : (xs[i]'him).toNat % 16 < 16 := by omega
      generalize xs[i]'him = x at *
      repeat' first
        | apply cw_seq
        | (refine cw_region_id 7 ?_; (apply ol_val; rfl; apply stp_cmp; apply s_lss; rfl; rfl; all_goals (intro hc26; try (exfalso; (first | exact hc26 rfl | omega)))); all_goals (apply ol_nil))
        | (refine cw_region_id 8 ?_; (apply ol_val; rfl; apply stp_pur; first | (apply s_indexK; rfl; rfl; exact el_22; exact sz_5; (first | rfl | exact hvB.at_ (by omega)); omega) | (apply s_indexO; rfl; rfl; exact el_22; exact sz_5; (first | rfl | exact hvB.at_ (by omega)); omega)); (apply ol_ld; rfl; rfl; rfl; (first | exact qP | (apply RdN.view; exact hci))); (apply ol_as; rfl; rfl); (apply ol_nil))
        | (apply cw_cond_true; rfl; exact qA)
        | (apply cw_cond_false; rfl; exact qA)
        | apply cw_skip
        | apply cw_ret
        | apply cw_block
        | apply cw_exit
      repeat' first
        | apply cw_seq
        | (refine cw_draw (id := 9) 8 (.mv 0 (.mv 1 (.mv 2 (.mv 3 (.mv 4 (.mv 5 (.mv 6 (.fx 7 (PT.nil))))))))) mixed (by kernel_rfl) ?_; (apply od_mv; rfl; rfl; apply s_move; rfl); (apply od_mv; rfl; rfl; apply s_move; rfl); (apply od_mv; rfl; rfl; apply s_shrE; rfl; rfl; (first | decide | omega | (simp [IntKind.bits]; omega) | (simp [IntKind.bits]; done)); exact hsr); (apply od_mv; rfl; rfl; first | (apply s_indexS; rfl; rfl; exact us_9; exact hex_in hi1; exact hex_at hi1) | (apply s_indexS; rfl; rfl; exact us_9; exact hex_in hi2; exact hex_at hi2)); (apply od_mv; rfl; rfl; apply s_move; rfl); (apply od_mv; rfl; rfl; apply s_andE; rfl; rfl; exact hbt); (apply od_mv; rfl; rfl; first | (apply s_indexS; rfl; rfl; exact us_9; exact hex_in hi1; exact hex_at hi1) | (apply s_indexS; rfl; rfl; exact us_9; exact hex_in hi2; exact hex_at hi2)); (apply od_fx; (first | exact Wk.refl _ _ | exact qW); (apply fx_val; rfl; rfl; apply s_buildSl; rfl; exact el_22; exact sz_5; exact zb_5; exact qN; rfl; rfl; (exact Nat.le_of_ble_eq_true rfl); exact qN; exact qR; intro bk36)); (apply od_nil; (first | exact Wk.refl _ _ | exact qW)); (apply ol_val; rfl; first | (apply s_append_e; rfl; rfl; exact qN; exact el_22; exact sz_5; exact zb_5; rfl; exact by_5; (first | exact (fun _ => rfl)); (first | exact qQ); (first | rfl); exact qO; exact qO; intro rk37 sk37 ck37 ok37) | (apply s_append_r; rfl; rfl; exact qN; (first | rfl | exact (List.append_nil _).symm); exact el_22; exact sz_5; exact zb_5; rfl; exact by_5; (first | exact SO.nil _ | assumption | (exact ⟨by simp, by simp, Nat.le_refl _, by simp⟩)); (first | exact (fun _ => rfl)); (first | exact qQ); (first | rfl); exact qO; exact qO; intro rk37 sk37 ck37 ok37) | (apply s_append_b; rfl; rfl; exact qN; (first | rfl | exact (List.append_nil _).symm); exact el_22; exact sz_5; exact zb_5; rfl; exact by_5; (first | exact SO.nil _ | assumption | (exact ⟨by simp, by simp, Nat.le_refl _, by simp⟩)); (first | exact (fun _ => rfl)); (first | exact qQ); (first | rfl); exact qO; exact qO; intro rk37 sk37 ck37 ok37) | (apply s_append_n; rfl; rfl; exact qN; exact el_22; exact sz_5; exact zb_5; rfl; exact by_5; (first | exact (fun _ => rfl)); (first | exact qQ); (first | rfl); exact qO; exact qO; intro rk37 sk37 ck37 ok37)); (apply ol_as; rfl; rfl); (apply ol_nil))
        | (refine cw_region_id 10 ?_; (apply ol_val; rfl; apply stp_pur; apply s_add64; rfl; rfl; omega); (apply ol_mv; rfl; rfl); (apply ol_nil))
        | (apply cw_cond_true; rfl; exact qA)
        | (apply cw_cond_false; rfl; exact qA)
        | apply cw_skip
        | apply cw_ret
        | apply cw_block
        | apply cw_exit
      rw [show n + 1 + 2 * i + 2 = n + 1 + 2 * (i + 1) by omega] at ok37 ⊢
      refine ⟨⟨i + 1, rk37, ck37, sk37⟩, ⟨by (repeat (first | exact trivial | refine And.intro rfl ?_)), View.le.refl _, by dsimp only; rw [hfl]; exact qK, ⟨him, ?_⟩, by dsimp only; omega⟩⟩
      dsimp only
      rw [hfl]
      exact ok37
    · have htk : xs.take i = xs := List.take_of_length_le (by omega)
      obtain rfl : i = xs.length := by omega
      rw [htk] at so3 ⊢
      unfold TA
      repeat' first
        | apply cw_seq
        | (refine cw_region_id 7 ?_; (apply ol_val; rfl; apply stp_cmp; apply s_lss; rfl; rfl; all_goals (intro hc26; try (exfalso; (first | exact hc26 rfl | omega)))); all_goals (apply ol_nil))
        | (refine cw_region_id 11 ?_; (apply ol_mv; rfl; rfl); (apply ol_as; rfl; rfl); (apply ol_nil))
        | (apply cw_cond_true; rfl; exact qA)
        | (apply cw_cond_false; rfl; exact qA)
        | apply cw_skip
        | apply cw_ret
        | apply cw_block
        | apply cw_exit
      refine endsA ⟨r3, flat (eK .u8) (out ++ 120 :: xs.flatMap hexB) ++ sp3, 5⟩ (RVal.tmp rfl RVal.nil) (by exact qK) ?_
      rw [List.length_cons, hexs_length, hn, show n + (2 * xs.length + 1) = n + 1 + 2 * xs.length by omega]
      exact ⟨r3, c3, sp3, rfl, rfl, so3⟩
end Go.Proofs.YtkkfgeekdaalmaaDoor
namespace Go.Proofs.YtkkfgeekdaalmaaDoor
set_option maxRecDepth 20000
set_option linter.unusedSimpArgs false
set_option linter.unusedVariables false
open Go Go.Fw
/-- The numbers are numbers of 64 bits. -/
def nR : (d : Nat) → It d → Prop
  | 0, h => -9223372036854775808 ≤ h.n ∧ h.n < 9223372036854775808
  | d + 1, (h, L) => (-9223372036854775808 ≤ h.n ∧ h.n < 9223372036854775808) ∧ ∀ x ∈ L, nR d x
theorem nR.head {d : Nat} {x : It d} (h : nR d x) : -9223372036854775808 ≤ x.hd.n ∧ x.hd.n < 9223372036854775808 := by
  cases d with
  | zero => exact h
  | succ d => exact h.1
theorem okH_k {h : Hd} (hk : okH h = true) : h.k = 1 ∨ h.k = 2 := by unfold okH at hk; simp at hk; rcases hk with h | h <;> simp [h.1]
theorem jn_take {d : Nat} {L : List (It d)} {i : Nat} (h : i < L.length) (f : It d → List Int) : jn ((L.take (i + 1)).map f) = if i = 0 then f L[i] else jn ((L.take i).map f) ++ 32 :: f L[i] := by
  rw [List.take_succ_eq_append_getElem h, List.map_append]
  split
  · rename_i h0
    subst h0
    rw [List.take_zero]
    exact jn_one _
  · rename_i h0
    exact jn_snoc (by
      intro e
      have := congrArg List.length e
      rw [List.length_map, List.length_take] at this
      simp only [List.length_nil] at this
      omega) _
theorem jn_mono {l r : List (List Int)} : (jn l).length ≤ (jn (l ++ r)).length := by
  unfold jn
  rw [List.flatMap_append]
  simp
  omega
theorem jn_take_le {d : Nat} (L : List (It d)) (i : Nat) (f : It d → List Int) : (jn ((L.take i).map f)).length ≤ (jn (L.map f)).length := by
  have := jn_mono (l := (L.take i).map f) (r := (L.drop i).map f)
  rwa [← List.map_append, List.take_append_drop] at this
end Go.Proofs.YtkkfgeekdaalmaaDoor
namespace Go.Proofs.YtkkfgeekdaalmaaDoor
set_option maxRecDepth 20000
set_option linter.unusedSimpArgs false
set_option linter.unusedVariables false
open Go Go.Fw
attribute [local irreducible] CW OL OD FX Stp FnC FnV FnA Ret strOf txt itx txI
set_option maxHeartbeats 1600000
theorem text_spec : ∀ (d : Nat) {M : View} {w : World}, View.le M (View.of w) → LT M → ∀ {x : It d}, ItV M d x → nR d x → okI d x = true → ∀ {r : Option Nat} {A : Option Addr} {cap n : Nat} {out : List Int} {sp : List Value}, (∀ b, r = some b → M b = none) → OB.ok ⟨r, flat (eK .u8) out ++ sp, 5⟩ w → SO r n cap (flat (eK .u8) out) sp 1 → out.length = n → n + (txI d x).length ≤ 1073741000 →
    FnA Tryd.prog 44 [.slice (base r A) n cap, .agg x.enc.toArray] w ⟨r, flat (eK .u8) out ++ sp, 5⟩ (TA A out (txI d x)) := by
  intro d
  induction d with
  | zero =>
    intro M w hM hL x hx hnr hok r A cap n out sp hr ho so hn hn2
    rw [txI_leaf (.inr rfl)] at hn2 ⊢
    rw [okI_leaf (.inr rfl)] at hok
    exact text_leaf hM hL hx.head hnr.head (okH_k hok) hr ho so hn hn2
  | succ d ih =>
    intro M w hM hLT x hx hnr hok r A cap n out sp hr ho so hn hn2
    by_cases h3 : x.hd.k = 3
    · obtain ⟨h, L⟩ := x
      obtain ⟨hv, hlL, sL, hL⟩ := hx
      obtain ⟨_, hnL⟩ := hnr
      have h3' : h.k = 3 := h3
      have e := txI_list (d := d) (L := L) h3'
      rw [okI_list h3', Bool.and_eq_true, decide_eq_true_eq, List.all_eq_true] at hok
      obtain ⟨⟨hn0, hB0, hm⟩, hall⟩ := hok
      rw [e] at hn2 ⊢
      have hxe : It.enc (d := d + 1) (h, L) = [.int .i64 h.k, .int .i64 h.n, .slice h.B.a h.B.xs.length h.B.c, .slice h.La h.m h.Lc] := rfl
      rw [hxe]
      clear hxe e h3
      obtain ⟨k, nn, ⟨xs, Ba, Bb, Bo, Bc⟩, La, Lb, Lo, Lc, m⟩ := h
      dsimp only at hv hlL sL h3' hm ⊢
      subst h3'
      have hle := fun i => jn_take_le L i (txI d)
      have hjt := fun i (h : i < L.length) => jn_take h (txI d)
      rw [List.length_cons, List.length_append] at hn2
      have hf1 : flat (eK .u8) (out ++ [40]) = flat (eK .u8) out ++ [.int .u8 40] := by rw [flat_append, flat_one]
      refine enterA (M := M) Tryd.func44 rfl rfl rfl rfl hM ho hr ?_
      repeat' first
        | apply cw_seq
        | (refine cw_region_id 0 ?_; (apply ol_val; rfl; first | (apply s_boxN; rfl; intro bk3) | (apply s_box1; rfl; rfl; intro bk3)); (apply ol_as; rfl; rfl); (apply ol_nil))
        | (refine cw_region_id 1 ?_; (apply ol_fa; rfl; rfl; exact fd_25_0; exact qZ); (apply ol_ld; rfl; rfl; rfl; exact qP); (apply ol_nil))
        | (refine cw_region_id 2 ?_; (apply ol_val; rfl; apply stp_cmp; apply s_eql; rfl; rfl; all_goals (intro hc12; try (exfalso; (first | exact hc12 rfl | omega)))); all_goals (apply ol_as; rfl; rfl); all_goals (apply ol_nil))
        | (refine cw_region_id 4 ?_; (apply ol_val; rfl; apply stp_cmp; apply s_eql; rfl; rfl; all_goals (intro hc18; try (exfalso; (first | exact hc18 rfl | omega)))); all_goals (apply ol_as; rfl; rfl); all_goals (apply ol_nil))
        | (refine cw_region_id 12 ?_; (apply ol_mv; rfl; rfl); (apply ol_val; rfl; apply s_buildSl; rfl; exact el_22; exact sz_5; exact zb_5; exact qN; rfl; rfl; (exact Nat.le_of_ble_eq_true rfl); exact qN; exact qR; intro bk41); (apply ol_val; rfl; first | (apply s_append_e; rfl; rfl; exact qN; exact el_22; exact sz_5; exact zb_5; rfl; exact by_5; (first | exact (fun _ => rfl)); (first | exact qQ); (first | rfl); exact qO; exact qO; intro rk42 sk42 ck42 ok42) | (apply s_append_r; rfl; rfl; exact qN; (first | rfl | exact (List.append_nil _).symm); exact el_22; exact sz_5; exact zb_5; rfl; exact by_5; (first | exact SO.nil _ | assumption | (exact ⟨by simp, by simp, Nat.le_refl _, by simp⟩)); (first | exact (fun _ => rfl)); (first | exact qQ); (first | rfl); exact qO; exact qO; intro rk42 sk42 ck42 ok42) | (apply s_append_b; rfl; rfl; exact qN; (first | rfl | exact (List.append_nil _).symm); exact el_22; exact sz_5; exact zb_5; rfl; exact by_5; (first | exact SO.nil _ | assumption | (exact ⟨by simp, by simp, Nat.le_refl _, by simp⟩)); (first | exact (fun _ => rfl)); (first | exact qQ); (first | rfl); exact qO; exact qO; intro rk42 sk42 ck42 ok42) | (apply s_append_n; rfl; rfl; exact qN; exact el_22; exact sz_5; exact zb_5; rfl; exact by_5; (first | exact (fun _ => rfl)); (first | exact qQ); (first | rfl); exact qO; exact qO; intro rk42 sk42 ck42 ok42)); (apply ol_as; rfl; rfl); (apply ol_nil))
        | (refine cw_region_id 13 ?_; (apply ol_fa; rfl; rfl; exact fd_25_3; exact qZ); (apply ol_ld; rfl; rfl; rfl; exact qP); (apply ol_val; rfl; apply stp_pur; apply s_len; rfl; exact el_23); (apply ol_mv; rfl; rfl); (apply ol_nil))
        | (apply cw_cond_true; rfl; exact qA)
        | (apply cw_cond_false; rfl; exact qA)
        | apply cw_skip
        | apply cw_ret
        | apply cw_block
        | apply cw_exit
      refine cw_loopK (σ := TSt) [44, 45] (by (repeat (first | exact Keep.nil | (apply Keep.cons; rfl)))) (fun s => [(0, .slice (base s.r A) (out ++ 40 :: jn ((L.take s.i).map (txI d))).length s.c), (46, .int .i64 s.i)]) (fun _ => M) (fun s => [⟨s.r, flat (eK .u8) (out ++ 40 :: jn ((L.take s.i).map (txI d))) ++ s.sp, 5⟩, ⟨some bk3, [.int .i64 3, .int .i64 nn, .slice Ba xs.length Bc, .slice La m Lc], 25⟩]) (fun s => s.i ≤ m ∧ SO s.r (out ++ 40 :: jn ((L.take s.i).map (txI d))).length s.c (flat (eK .u8) (out ++ 40 :: jn ((L.take s.i).map (txI d)))) s.sp 1) (fun s => m - s.i) ⟨0, rk42, ck42, sk42⟩ (by dsimp only; rw [List.take_zero, List.map_nil, jn_nil, List.length_append, hn]; (repeat (first | exact trivial | refine And.intro rfl ?_))) (View.le.refl _) (by dsimp only; rw [List.take_zero, List.map_nil, jn_nil, hf1]; exact qK) ⟨Nat.zero_le _, by dsimp only; rw [List.take_zero, List.map_nil, jn_nil, hf1, List.length_append, hn]; exact ok42⟩ ?_
      rintro ⟨i, r3, c3, sp3⟩ ⟨hi, so3⟩
      dsimp only at hi so3
      dsimp only
      by_cases him : i < m
      · have hil : i < L.length := by omega
        have hci := sL.cells i hil
        have hj := hjt i hil
        have hb := hle (i + 1)
        have kw : ∀ (w' : World), View.le M (View.of w') → ∀ (r : Option Nat) (c : Nat) (sp : List Value) (Z : List Int), (∀ b, r = some b → M b = none) → OB.ok ⟨r, flat (eK .u8) Z ++ sp, 5⟩ w' → SO r Z.length c (flat (eK .u8) Z) sp 1 → Z.length + (txI d (L[i]'hil)).length ≤ 1073741000 → FnA Tryd.prog 44 [.slice (base r A) Z.length c, .agg (It.enc (L[i]'hil)).toArray] w' ⟨r, flat (eK .u8) Z ++ sp, 5⟩ (TA A Z (txI d (L[i]'hil))) := fun w' h r c sp Z h1 h2 h3 h4 =>
          ih h (hLT) (hL _ (List.getElem_mem hil)) (hnL _ (List.getElem_mem hil)) (hall _ (List.getElem_mem hil)) h1 h2 h3 rfl h4
        clear hL hnL hall hle hjt
        generalize L[i]'hil = y at *
        generalize txI d y = ty at *
        unfold It.enc at hci kw
        unfold TA at kw
        generalize hY : jn ((L.take i).map (txI d)) = J at *
        have hJl : (out ++ 40 :: J).length = n + 1 + J.length := by rw [List.length_append, hn, List.length_cons]; omega
        by_cases hi0 : i = 0
        · rw [if_pos hi0] at hj
          have hJ0 : J = [] := by rw [← hY, hi0]; rfl
          have hz : out ++ 40 :: jn ((L.take (i + 1)).map (txI d)) = (out ++ 40 :: J) ++ ty := by rw [hj, hJ0]; simp
          have hzl : (out ++ 40 :: J).length + ty.length ≤ 1073741000 := by
            rw [hj] at hb
            rw [hJl, hJ0]
            simp only [List.length_nil]
            omega
          generalize out ++ 40 :: J = Y at *
          repeat' first
            | apply cw_seq
            | (refine cw_region_id 14 ?_; (apply ol_val; rfl; apply stp_cmp; apply s_lss; rfl; rfl; all_goals (intro hc47; try (exfalso; (first | exact hc47 rfl | omega)))); all_goals (apply ol_nil))
            | (refine cw_region_id 15 ?_; (apply ol_mv; rfl; rfl); (apply ol_val; rfl; apply stp_pur; first | (apply s_indexK; rfl; rfl; exact el_23; exact sz_25; (first | rfl | exact sL.at_ (by omega)); omega) | (apply s_indexO; rfl; rfl; exact el_23; exact sz_25; (first | rfl | exact sL.at_ (by omega)); omega)); (apply ol_ldN; rfl; rfl; rfl; exact sz_25; (first | exact qQ | (apply RdN.view; exact hci))); (apply ol_val; rfl; apply s_alloc; exact zb_25; exact qN; intro bk8); (apply ol_as; rfl; rfl); (apply ol_eff; apply s_storeN; rfl; rfl; exact sz_25; rfl; rfl; exact qN; exact qN); (apply ol_nil))
            | (refine cw_region_id 16 ?_; (apply ol_mv; rfl; rfl); (apply ol_val; rfl; apply stp_cmp; apply s_gtr; rfl; rfl; all_goals (intro hc52; try (exfalso; (first | exact hc52 rfl | omega)))); all_goals (apply ol_nil))
            | (refine cw_region_id 18 ?_; (apply ol_mv; rfl; rfl); (apply ol_ldN; rfl; rfl; rfl; exact sz_25; (first | exact qQ | (apply RdN.view; exact hci))); (apply ol_val; rfl; (apply s_callA; rfl; exact gf_44; (intro w' hw'; exact kw w' hw'.le r3 c3 sp3 (Y) (hw'.sep_ (x := ⟨r3, flat (eK .u8) (Y) ++ sp3, 5⟩) (by (repeat (first | exact Has.here | apply Has.there)))) (hw'.ok_ (by (repeat (first | exact Has.here | apply Has.there)))) so3 hzl); exact qS; (intro v y h; obtain ⟨r2, cap2, sp2, rfl, rfl, so2⟩ := h))); all_goals (apply ol_as; rfl; rfl); all_goals (apply ol_nil))
            | (refine cw_region_id 19 ?_; (apply ol_val; rfl; apply stp_pur; apply s_add64; rfl; rfl; omega); (apply ol_mv; rfl; rfl); (apply ol_nil))
            | (apply cw_cond_true; rfl; exact qA)
            | (apply cw_cond_false; rfl; exact qA)
            | apply cw_skip
            | apply cw_ret
            | apply cw_block
            | apply cw_exit
          rw [← List.length_append] at so2 ⊢
          refine ⟨⟨i + 1, r2, cap2, sp2⟩, ⟨by dsimp only; rw [hz]; (repeat (first | exact trivial | refine And.intro rfl ?_)), View.le.refl _, by dsimp only; rw [hz]; exact qK, ⟨him, ?_⟩, by dsimp only; omega⟩⟩
          dsimp only
          rw [hz]
          exact so2
        · rw [if_neg hi0] at hj
          have hz : out ++ 40 :: jn ((L.take (i + 1)).map (txI d)) = (out ++ 40 :: J) ++ [32] ++ ty := by rw [hj]; simp
          have hzl : (out ++ 40 :: J).length + 1 + ty.length ≤ 1073741000 := by
            rw [hj, List.length_append, List.length_cons] at hb
            omega
          generalize out ++ 40 :: J = Y at *
          have hf2 : flat (eK .u8) (Y ++ [32]) = flat (eK .u8) Y ++ [.int .u8 32] := by rw [flat_append, flat_one]
          have hl2 : (Y ++ [32]).length = Y.length + 1 := by rw [List.length_append]; rfl
          repeat' first
            | apply cw_seq
            | (refine cw_region_id 14 ?_; (apply ol_val; rfl; apply stp_cmp; apply s_lss; rfl; rfl; all_goals (intro hc47; try (exfalso; (first | exact hc47 rfl | omega)))); all_goals (apply ol_nil))
            | (refine cw_region_id 15 ?_; (apply ol_mv; rfl; rfl); (apply ol_val; rfl; apply stp_pur; first | (apply s_indexK; rfl; rfl; exact el_23; exact sz_25; (first | rfl | exact sL.at_ (by omega)); omega) | (apply s_indexO; rfl; rfl; exact el_23; exact sz_25; (first | rfl | exact sL.at_ (by omega)); omega)); (apply ol_ldN; rfl; rfl; rfl; exact sz_25; (first | exact qQ | (apply RdN.view; exact hci))); (apply ol_val; rfl; apply s_alloc; exact zb_25; exact qN; intro bk8); (apply ol_as; rfl; rfl); (apply ol_eff; apply s_storeN; rfl; rfl; exact sz_25; rfl; rfl; exact qN; exact qN); (apply ol_nil))
            | (refine cw_region_id 16 ?_; (apply ol_mv; rfl; rfl); (apply ol_val; rfl; apply stp_cmp; apply s_gtr; rfl; rfl; all_goals (intro hc52; try (exfalso; (first | exact hc52 rfl | omega)))); all_goals (apply ol_nil))
            | (refine cw_region_id 17 ?_; (apply ol_mv; rfl; rfl); (apply ol_val; rfl; apply s_buildSl; rfl; exact el_22; exact sz_5; exact zb_5; exact qN; rfl; rfl; (exact Nat.le_of_ble_eq_true rfl); exact qN; exact qR; intro bk54); (apply ol_val; rfl; first | (apply s_append_e; rfl; rfl; exact qN; exact el_22; exact sz_5; exact zb_5; rfl; exact by_5; (first | exact (fun _ => rfl) | (intro _; exact sL.at_ (by omega))); (first | exact qQ); (first | rfl); exact qO; exact qO; intro rk55 sk55 ck55 ok55) | (apply s_append_r; rfl; rfl; exact qN; (first | rfl | exact (List.append_nil _).symm); exact el_22; exact sz_5; exact zb_5; rfl; exact by_5; (first | exact SO.nil _ | assumption | (exact ⟨by simp, by simp, Nat.le_refl _, by simp⟩)); (first | exact (fun _ => rfl) | (intro _; exact sL.at_ (by omega))); (first | exact qQ); (first | rfl); exact qO; exact qO; intro rk55 sk55 ck55 ok55) | (apply s_append_b; rfl; rfl; exact qN; (first | rfl | exact (List.append_nil _).symm); exact el_22; exact sz_5; exact zb_5; rfl; exact by_5; (first | exact SO.nil _ | assumption | (exact ⟨by simp, by simp, Nat.le_refl _, by simp⟩)); (first | exact (fun _ => rfl) | (intro _; exact sL.at_ (by omega))); (first | exact qQ); (first | rfl); exact qO; exact qO; intro rk55 sk55 ck55 ok55) | (apply s_append_n; rfl; rfl; exact qN; exact el_22; exact sz_5; exact zb_5; rfl; exact by_5; (first | exact (fun _ => rfl) | (intro _; exact sL.at_ (by omega))); (first | exact qQ); (first | rfl); exact qO; exact qO; intro rk55 sk55 ck55 ok55)); (apply ol_as; rfl; rfl); (apply ol_nil))
            | (apply cw_cond_true; rfl; exact qA)
            | (apply cw_cond_false; rfl; exact qA)
            | apply cw_skip
            | apply cw_ret
            | apply cw_block
            | apply cw_exit
          rw [← hf2, ← hl2] at ok55
          refine cw_pick (own' := [⟨some bk8, [.int .i64 y.hd.k, .int .i64 y.hd.n, .slice y.hd.B.a y.hd.B.xs.length y.hd.B.c, .slice y.hd.La y.hd.m y.hd.Lc], 25⟩, ⟨rk55, flat (eK .u8) (Y ++ [32]) ++ sk55, 5⟩, ⟨some bk3, [.int .i64 3, .int .i64 nn, .slice Ba xs.length Bc, .slice La m Lc], 25⟩]) (by rw [hf2]; exact qK) ?_
          rw [← hl2] at hzl
          rw [← hl2]
          repeat' first
            | apply cw_seq
            | (refine cw_region_id 18 ?_; (apply ol_mv; rfl; rfl); (apply ol_ldN; rfl; rfl; rfl; exact sz_25; exact qQ); (apply ol_val; rfl; (apply s_callA; rfl; exact gf_44; (intro w' hw'; exact kw w' hw'.le rk55 ck55 sk55 (Y ++ [32]) (hw'.sep_ (x := ⟨rk55, flat (eK .u8) (Y ++ [32]) ++ sk55, 5⟩) (by (repeat (first | exact Has.here | apply Has.there)))) (hw'.ok_ (by (repeat (first | exact Has.here | apply Has.there)))) ok55 hzl); exact qS; (intro v y h; obtain ⟨r2, cap2, sp2, rfl, rfl, so2⟩ := h))); all_goals (apply ol_as; rfl; rfl); all_goals (apply ol_nil))
            | (refine cw_region_id 19 ?_; (apply ol_val; rfl; apply stp_pur; apply s_add64; rfl; rfl; omega); (apply ol_mv; rfl; rfl); (apply ol_nil))
            | (apply cw_cond_true; rfl; exact qA)
            | (apply cw_cond_false; rfl; exact qA)
            | apply cw_skip
            | apply cw_ret
            | apply cw_block
            | apply cw_exit
          rw [← List.length_append] at so2 ⊢
          refine ⟨⟨i + 1, r2, cap2, sp2⟩, ⟨by dsimp only; rw [hz]; (repeat (first | exact trivial | refine And.intro rfl ?_)), View.le.refl _, by dsimp only; rw [hz]; exact qK, ⟨him, ?_⟩, by dsimp only; omega⟩⟩
          dsimp only
          rw [hz]
          exact so2
      · have htk : L.take i = L := List.take_of_length_le (by omega)
        rw [htk] at so3 ⊢
        generalize jn (L.map (txI d)) = J at *
        unfold TA
        repeat' first
          | apply cw_seq
          | (refine cw_region_id 14 ?_; (apply ol_val; rfl; apply stp_cmp; apply s_lss; rfl; rfl; all_goals (intro hc47; try (exfalso; (first | exact hc47 rfl | omega)))); all_goals (apply ol_nil))
          | (refine cw_region_id 20 ?_; (apply ol_mv; rfl; rfl); (apply ol_val; rfl; apply s_buildSl; rfl; exact el_22; exact sz_5; exact zb_5; exact qN; rfl; rfl; (exact Nat.le_of_ble_eq_true rfl); exact qN; exact qR; intro bk61); (apply ol_val; rfl; first | (apply s_append_e; rfl; rfl; exact qN; exact el_22; exact sz_5; exact zb_5; rfl; exact by_5; (first | exact (fun _ => rfl)); (first | exact qQ); (first | rfl); exact qO; exact qO; intro rk62 sk62 ck62 ok62) | (apply s_append_r; rfl; rfl; exact qN; (first | rfl | exact (List.append_nil _).symm); exact el_22; exact sz_5; exact zb_5; rfl; exact by_5; (first | exact SO.nil _ | assumption | (exact ⟨by simp, by simp, Nat.le_refl _, by simp⟩)); (first | exact (fun _ => rfl)); (first | exact qQ); (first | rfl); exact qO; exact qO; intro rk62 sk62 ck62 ok62) | (apply s_append_b; rfl; rfl; exact qN; (first | rfl | exact (List.append_nil _).symm); exact el_22; exact sz_5; exact zb_5; rfl; exact by_5; (first | exact SO.nil _ | assumption | (exact ⟨by simp, by simp, Nat.le_refl _, by simp⟩)); (first | exact (fun _ => rfl)); (first | exact qQ); (first | rfl); exact qO; exact qO; intro rk62 sk62 ck62 ok62) | (apply s_append_n; rfl; rfl; exact qN; exact el_22; exact sz_5; exact zb_5; rfl; exact by_5; (first | exact (fun _ => rfl)); (first | exact qQ); (first | rfl); exact qO; exact qO; intro rk62 sk62 ck62 ok62)); (apply ol_as; rfl; rfl); (apply ol_nil))
          | (apply cw_cond_true; rfl; exact qA)
          | (apply cw_cond_false; rfl; exact qA)
          | apply cw_skip
          | apply cw_ret
          | apply cw_block
          | apply cw_exit
        have hf3 : flat (eK .u8) (out ++ 40 :: (J ++ [41])) = flat (eK .u8) (out ++ 40 :: J) ++ [.int .u8 41] := by rw [← List.cons_append, ← List.append_assoc, flat_append, flat_one]
        have hl3 : (out ++ 40 :: J).length + 1 = out.length + (40 :: (J ++ [41])).length := by rw [List.length_append, List.length_cons, List.length_cons, List.length_append]; rfl
        refine endsA ⟨rk62, flat (eK .u8) (out ++ 40 :: (J ++ [41])) ++ sk62, 5⟩ (RVal.tmp rfl RVal.nil) (by rw [hf3]; exact qK) ?_
        exact ⟨rk62, ck62, sk62, by rw [← hl3]; rfl, rfl, by rw [hf3, ← hl3]; exact ok62⟩
    · rw [txI_leaf (.inl h3)] at hn2 ⊢
      rw [okI_leaf (.inl h3)] at hok
      exact text_leaf hM hLT hx.head hnr.head (okH_k hok) hr ho so hn hn2
end Go.Proofs.YtkkfgeekdaalmaaDoor
namespace Go.Proofs.YtkkfgeekdaalmaaDoor
set_option maxRecDepth 20000
set_option linter.unusedSimpArgs false
set_option linter.unusedVariables false
open Go Go.Fw
/-- What Text says: the error and the text. -/
def txP (x : It 8) : Nat × List Int := if okI 8 x = false then (1, []) else (0, txI 8 x)
theorem strOf_nil0 : strOf [] = ⟨#[]⟩ := rfl
theorem itx_pos (n : Int) : 0 < (itx n).length := by
  unfold itx
  split
  · simp
  · exact txt_len_pos _ _ (by decide)
theorem txH_pos (h : Hd) : 0 < (txH h).length := by
  unfold txH
  split
  · exact itx_pos _
  · simp
theorem txI_pos : ∀ {d : Nat} (x : It d), 0 < (txI d x).length
  | 0, x => txH_pos x
  | d + 1, (h, L) => by
    show 0 < (if h.k = 3 then 40 :: (jn (L.map (txI d)) ++ [41]) else txH h).length
    split
    · simp
    · exact txH_pos _
def TRs (p : Nat × List Int) (v : Value) (_ : List OB) : Prop := v = .tuple #[.string (strOf p.2), .int .i64 p.1]
end Go.Proofs.YtkkfgeekdaalmaaDoor
namespace Go.Proofs.YtkkfgeekdaalmaaDoor
set_option maxRecDepth 20000
set_option linter.unusedSimpArgs false
set_option linter.unusedVariables false
open Go Go.Fw
attribute [local irreducible] CW OL OD FX Stp FnC FnV FnA Ret strOf txt itx txI okI
set_option maxHeartbeats 1600000
theorem ptext_spec {M : View} {w : World} (hM : View.le M (View.of w)) (hL : LT M) {x : It 8} (hx : ItV M 8 x) (hnr : nR 8 x) (hlen : (txP x).2.length ≤ 1073741000) :
    FnC Tryd.prog 26 [.agg x.enc.toArray] w (TRs (txP x)) := by
  have kv := fun (w' : World) (h : View.le M (View.of w')) => valid_spec h hx
  have kw := fun (w' : World) (h : View.le M (View.of w')) (hok : okI 8 x = true) (hl : (txI 8 x).length ≤ 1073741000) => text_spec 8 h hL hx hnr hok (r := none) (A := none) (cap := 0) (n := 0) (out := []) (sp := []) (fun b hb => by cases hb) rfl (SO.nil 1) rfl (by omega)
  unfold txP at hlen ⊢
  unfold It.enc at *
  generalize x.hd = h at *
  obtain ⟨k, n, ⟨xs, Ba, Bb, Bo, Bc⟩, La, Lb, Lo, Lc, m⟩ := h
  dsimp only at kv kw ⊢
  refine enterF (M := M) Tryd.func26 rfl rfl rfl rfl hM ?_
  refine cw_none 5 ?_
  by_cases hok : okI 8 x = false
  · rw [if_pos hok]
    rw [hok] at kv
    repeat' first
      | apply cw_seq
      | (refine cw_region_id 0 ?_; (apply ol_val; rfl; first | (apply s_boxN; rfl; intro bk1) | (apply s_box1; rfl; rfl; intro bk1)); (apply ol_as; rfl; rfl); (apply ol_as; rfl; rfl); (apply ol_nil))
      | (refine cw_region_id 1 ?_; (apply ol_ldN; rfl; rfl; rfl; exact sz_25; exact qQ); (apply ol_val; rfl; apply s_callv; rfl; exact gf_14; (intro w' hw'; exact kv w' hw'.le)); (apply ol_val; rfl; apply stp_pur; first | (apply s_not_t; rfl; exact qA) | (apply s_not_f; rfl; exact qA) | (apply s_not; rfl)); (apply ol_nil))
      | (refine cw_region_id 2 ?_; (apply ol_as; rfl; rfl); (apply ol_as; rfl; rfl); (apply ol_nil))
      | (apply cw_cond_true; rfl; exact qA)
      | (apply cw_cond_false; rfl; exact qA)
      | apply cw_skip
      | apply cw_ret
      | apply cw_block
      | apply cw_exit
    refine ends [] (RVal.tmp rfl (RVal.tmp rfl RVal.nil)) Pick.nil ?_
    unfold TRs
    rw [strOf_nil0]
    rfl
  · rw [if_neg hok] at hlen ⊢
    have hok1 : okI 8 x = true := by simpa using hok
    rw [hok1] at kv
    have kw' := fun (w' : World) (h : View.le M (View.of w')) => kw w' h hok1 hlen
    clear kw
    have hpos := txI_pos (d := 8) x
    generalize txI 8 x = E at *
    unfold TA at kw'
    simp only [List.length_nil, Nat.zero_add, List.nil_append] at kw'
    repeat' first
      | apply cw_seq
      | (refine cw_region_id 0 ?_; (apply ol_val; rfl; first | (apply s_boxN; rfl; intro bk1) | (apply s_box1; rfl; rfl; intro bk1)); (apply ol_as; rfl; rfl); (apply ol_as; rfl; rfl); (apply ol_nil))
      | (refine cw_region_id 1 ?_; (apply ol_ldN; rfl; rfl; rfl; exact sz_25; exact qQ); (apply ol_val; rfl; apply s_callv; rfl; exact gf_14; (intro w' hw'; exact kv w' hw'.le)); (apply ol_val; rfl; apply stp_pur; first | (apply s_not_t; rfl; exact qA) | (apply s_not_f; rfl; exact qA) | (apply s_not; rfl)); (apply ol_nil))
      | (refine cw_region_id 3 ?_; (apply ol_ldN; rfl; rfl; rfl; exact sz_25; exact qQ); (apply ol_val; rfl; (apply s_callA (x := ⟨none, [], 5⟩); rfl; exact gf_44; (intro w' hw'; exact kw' w' hw'.le); exact qS; (intro v y h; obtain ⟨r4, c4, sp4, rfl, rfl, so4⟩ := h; rcases r4 with _ | b4; (exact absurd (so4.empty rfl) (by omega))))); all_goals (apply ol_val; rfl; apply stp_pur; apply s_convBS; rfl; exact el_22; exact tdInt_eq ti_5; exact us_9; exact (fun _ => rfl); rfl; (apply RdN.own; (repeat (first | exact Has.here | apply Has.there)); exact getNK_n rfl)); all_goals (apply ol_as; rfl; rfl); all_goals (apply ol_as; rfl; rfl); all_goals (apply ol_nil))
      | (apply cw_cond_true; rfl; exact qA)
      | (apply cw_cond_false; rfl; exact qA)
      | apply cw_skip
      | apply cw_ret
      | apply cw_block
      | apply cw_exit
    refine ends [] (RVal.tmp rfl (RVal.tmp rfl RVal.nil)) Pick.nil ?_
    rfl
end Go.Proofs.YtkkfgeekdaalmaaDoor
namespace Go.Proofs.YtkkfgeekdaalmaaDoor
set_option maxRecDepth 20000
set_option linter.unusedSimpArgs false
set_option linter.unusedVariables false
open Go Go.Fw
abbrev a5 (q : Nat) : It 7 := mkL 7 ⟨2, 0, ⟨[5], some ⟨q, 0, none⟩, q, 0, 1⟩, none, 0, 0, 0, 0⟩
/-- The item of the check. -/
def aX (p q : Nat) : It 8 := (⟨3, 0, ⟨[], none, 0, 0, 0⟩, some ⟨p, 0, none⟩, p, 0, 2, 2⟩, [mkL 7 (hdN (-1)), a5 q])
def aE : List Int := [3, 0, 0, 0, 2, 1, 255, 255, 255, 255, 255, 255, 255, 255, 2, 0, 0, 0, 1, 5]
def aT : List Int := [40, 45, 49, 32, 120, 48, 53, 41]
theorem aX_enc (p q : Nat) : (aX p q).enc = [.int .i64 3, .int .i64 0, .slice none 0 0, .slice (some ⟨p, 0, none⟩) 2 2] := rfl
theorem aX_ok (p q : Nat) : okI 8 (aX p q) = true := by
  unfold aX
  rw [okI_list rfl]
  simp only [List.all_cons, List.all_nil, okI_mkL (show (hdN (-1)).k ≠ 3 by decide)]
  rw [okI_mkL (by show (2 : Int) ≠ 3; decide)]
  rfl
theorem aX_encI (p q : Nat) : encI 8 (aX p q) = aE := by
  unfold aX
  rw [encI_list rfl]
  simp only [List.flatMap_cons, List.flatMap_nil, encI_mkL (show (hdN (-1)).k ≠ 3 by decide)]
  rw [encI_mkL (by show (2 : Int) ≠ 3; decide), encH_1 rfl, encH_2 rfl]
  show [3] ++ bI 4 2 ++ (([1] ++ bI 8 (u64 (-1))) ++ ((([2] ++ bI 4 1) ++ [5]) ++ [])) = aE
  decide
theorem aX_encP (p q : Nat) : encP (aX p q) = (0, aE) := by
  unfold encP
  rw [aX_ok, aX_encI]
  rfl
theorem txI_mkL {h : Hd} (h3 : h.k ≠ 3) (d : Nat) : txI d (mkL d h) = txH h := by
  rw [txI_leaf (.inl (by rw [mkL_hd]; exact h3)), mkL_hd]
theorem itx_1 : itx (-1) = [45, 49] := by
  unfold itx
  rw [if_pos (by decide), show (-(-1 : Int)).toNat = 1 from rfl, txt_digit (by decide)]
  rfl
theorem aX_txI (p q : Nat) : txI 8 (aX p q) = aT := by
  unfold aX
  rw [txI_list rfl]
  simp only [List.map_cons, List.map_nil, txI_mkL (show (hdN (-1)).k ≠ 3 by decide)]
  rw [txI_mkL (by show (2 : Int) ≠ 3; decide), txH_1 rfl, show (hdN (-1)).n = -1 from rfl, itx_1, txH_2 rfl]
  rfl
theorem aX_txP (p q : Nat) : txP (aX p q) = (0, aT) := by
  unfold txP
  rw [aX_ok, aX_txI]
  rfl
theorem nR_mkL {h : Hd} (hn : -9223372036854775808 ≤ h.n ∧ h.n < 9223372036854775808) : ∀ d, nR d (mkL d h)
  | 0 => hn
  | _ + 1 => ⟨hn, fun x hx => by cases hx⟩
theorem aX_nR (p q : Nat) : nR 8 (aX p q) := by
  refine ⟨by show -9223372036854775808 ≤ (0 : Int) ∧ (0 : Int) < 9223372036854775808; decide, fun x hx => ?_⟩
  rcases List.mem_cons.1 hx with rfl | hx
  · exact nR_mkL (by first | decide | (show -9223372036854775808 ≤ (0 : Int) ∧ (0 : Int) < 9223372036854775808; decide)) 7
  · rcases List.mem_cons.1 hx with rfl | hx
    · exact nR_mkL (by first | decide | (show -9223372036854775808 ≤ (0 : Int) ∧ (0 : Int) < 9223372036854775808; decide)) 7
    · cases hx
theorem aX_V {w : World} {p q : Nat} (hp : OB.ok ⟨some p, [.int .i64 1, .int .i64 (-1), .slice none 0 0, .slice none 0 0, .int .i64 2, .int .i64 0, .slice (some ⟨q, 0, none⟩) 1 1, .slice none 0 0], 25⟩ w) (hq : OB.ok ⟨some q, [.int .u8 5], 5⟩ w) : ItV (View.of w) 8 (aX p q) := by
  have sq : SlA (View.of w) (eK .u8) 1 (base (some q) none) [5] q 0 := SlA.own (A := none) (eK_length .u8) (xs := [5]) (sp := []) hq (fun h => by cases h)
  have sp : SlA (View.of w) It.enc 4 (base (some p) none) [mkL 7 (hdN (-1)), a5 q] p 0 := SlA.own (A := none) (fun x => by rfl) (sp := []) hp (fun h => by cases h)
  refine ⟨⟨SlA.none', fun x hx => (by cases hx), by show 0 ≤ 140737488355328; decide, by show 2 ≤ 140737488355328; decide⟩, rfl, sp, fun x hx => ?_⟩
  rcases List.mem_cons.1 hx with rfl | hx
  · exact ItV.mkL ⟨SlA.none', fun x hx => (by cases hx), by decide, by decide⟩ rfl 7
  · rcases List.mem_cons.1 hx with rfl | hx
    · exact ItV.mkL ⟨sq, fun x hx => (by have := List.mem_singleton.1 hx; subst this; decide), by show 1 ≤ _; decide, by show 0 ≤ _; decide⟩ rfl 7
    · cases hx
section
variable {C : Pr} {fm : FM} {M : View} {own : List OB} {d : Option Nat} {ty : TypeId} {pos : String} {af : Array Edge} {g : Option (Nat × Bool)}
theorem s_eqlStrT {t : TypeId} {t' : TypeId} {x y : Operand} {a b : ByteArray} {v : Bool} (hx : ev fm x = some (.string a)) (hy : ev fm y = some (.string b)) (h : (a.toList == b.toList) = v) :
    Pur C ⟨d, .binOp .eql t x y t', ty, pos, af, g⟩ fm M own (.bool v) := by
  rw [← h]
  exact s_eqlStr hx hy
end
theorem decE_a : decE [2, 0, 0, 0, 2, 7] = 4 := by decide
end Go.Proofs.YtkkfgeekdaalmaaDoor
namespace Go.Proofs.YtkkfgeekdaalmaaDoor
set_option maxRecDepth 20000
set_option linter.unusedSimpArgs false
set_option linter.unusedVariables false
open Go Go.Fw
attribute [local irreducible] CW OL OD FX Stp FnC FnV FnA FnM Ret strOf txt itx txI okI encI
set_option maxHeartbeats 1600000
theorem awake_spec {M : View} {w : World} (hM : View.le M (View.of w)) (hL : LT M) : FnC Tryd.prog 10 [] w (fun v _ => v = .bool true) := by
  have k1 : ∀ (w' : World) {p q : Nat}, OB.ok ⟨some p, [.int .i64 1, .int .i64 (-1), .slice none 0 0, .slice none 0 0, .int .i64 2, .int .i64 0, .slice (some ⟨q, 0, none⟩) 1 1, .slice none 0 0], 25⟩ w' → OB.ok ⟨some q, [.int .u8 5], 5⟩ w' → FnC Tryd.prog 12 [.agg #[.int .i64 3, .int .i64 0, .slice none 0 0, .slice (some ⟨p, 0, none⟩) 2 2]] w' (BRs (0, aE)) := fun w' p q h1 h2 => by
    have := encode_spec (View.le.refl (View.of w')) (aX_V h1 h2)
    rw [aX_encP, aX_enc] at this
    exact this
  have k2 : ∀ (w' : World), View.le M (View.of w') → ∀ {p q : Nat}, OB.ok ⟨some p, [.int .i64 1, .int .i64 (-1), .slice none 0 0, .slice none 0 0, .int .i64 2, .int .i64 0, .slice (some ⟨q, 0, none⟩) 1 1, .slice none 0 0], 25⟩ w' → OB.ok ⟨some q, [.int .u8 5], 5⟩ w' → FnC Tryd.prog 26 [.agg #[.int .i64 3, .int .i64 0, .slice none 0 0, .slice (some ⟨p, 0, none⟩) 2 2]] w' (TRs (0, aT)) := fun w' h p q h1 h2 => by
    have := ptext_spec (View.le.refl (View.of w')) (hL.mono h) (aX_V h1 h2) (aX_nR p q) (by rw [aX_txP]; decide)
    rw [aX_txP, aX_enc] at this
    exact this
  have k3 : ∀ (w' : World) {q : Nat}, OB.ok ⟨some q, [.int .u8 2, .int .u8 0, .int .u8 0, .int .u8 0, .int .u8 2, .int .u8 7], 5⟩ w' → FnM Tryd.prog 17 [.slice (some ⟨q, 0, none⟩) 6 6] w' [] (fun v _ ys => ys = [] ∧ v = .tuple #[.agg #[.int .i64 0, .int .i64 0, .slice none 0 0, .slice none 0 0], .int .i64 4]) := fun w' q h1 => by
    have hs : SlA (View.of w') (eK .u8) 1 (base (some q) none) [2, 0, 0, 0, 2, 7] q 0 := SlA.own (A := none) (eK_length .u8) (xs := [2, 0, 0, 0, 2, 7]) (sp := []) h1 (fun h => by cases h)
    refine FnM.mono (decode_spec (View.le.refl (View.of w')) (l := [2, 0, 0, 0, 2, 7]) (n := 6) (c := 6) ⟨⟨q, 0, hs⟩, rfl, Nat.le_refl _, by decide⟩) ?_
    rintro v F ys ⟨h1, x, rfl, -, hx⟩
    rw [decE_a] at hx ⊢
    rw [hx (by decide), zItem_enc]
    exact ⟨h1, rfl⟩
  have k4 : ∀ (w' : World) {r : Option Nat} {A : Option Addr} {c : Nat} {sp : List Value} {q : Nat}, SO r aE.length c (flat (eK .u8) aE) sp 1 → OB.ok ⟨r, flat (eK .u8) aE ++ sp, 5⟩ w' → OB.ok ⟨some q, flat (eK .u8) aE, 5⟩ w' → FnC Tryd.prog 16 [.slice (base r A) aE.length c, .slice (some ⟨q, 0, none⟩) 20 20] w' (fun v _ => v = .bool true) := fun w' r A c sp q so h1 h2 => by
    have s1 : SlA (View.of w') (eK .u8) 1 (base r A) aE (r.getD 0) 0 := SlA.own (A := A) (eK_length .u8) h1 (fun h => by have := so.empty h; exact absurd this (by decide))
    have s2 : SlA (View.of w') (eK .u8) 1 (base (some q) none) aE q 0 := SlA.own (A := none) (eK_length .u8) (xs := aE) (sp := []) (by rw [List.append_nil]; exact h2) (fun h => by cases h)
    have := bequal_spec (c := c) (c' := 20) (View.le.refl (View.of w')) (n := aE.length) (n' := 20) rfl rfl (by decide) (by decide) s1 s2
    rw [show decide (aE = aE) = true from decide_eq_true rfl] at this
    exact this
  have hs : strOf aT = ⟨#[40, 45, 49, 32, 120, 48, 53, 41]⟩ := by unfold strOf; rfl
  have hse : ((⟨#[40, 45, 49, 32, 120, 48, 53, 41]⟩ : ByteArray).toList == (⟨#[40, 45, 49, 32, 120, 48, 53, 41]⟩ : ByteArray).toList) = true := beq_self_eq_true _
  have h00 : ((0 : Nat) : Int) = 0 := rfl
  unfold BRs RowRes at k1
  unfold TRs at k2
  dsimp only at k1 k2
  rw [h00] at k1 k2
  rw [hs] at k2
  refine enterF (M := M) Tryd.func10 rfl rfl rfl rfl hM ?_
  repeat' first
    | apply cw_seq
    | (refine cw_region_id 0 ?_; (apply ol_as; rfl; rfl); (apply ol_nil))
    | (refine cw_region_id 1 ?_; (apply ol_val; rfl; apply stp_pur; apply s_buildS; rfl; exact fs_25; exact zb_25; exact qR); (apply ol_val; rfl; apply s_buildSl; rfl; exact el_22; exact sz_5; exact zb_5; exact qN; rfl; rfl; (exact Nat.le_of_ble_eq_true rfl); exact qN; exact qR; intro bk9); (apply ol_val; rfl; apply stp_pur; apply s_buildS; rfl; exact fs_25; exact zb_25; exact qR); (apply ol_val; rfl; apply s_buildSl; rfl; exact el_23; exact sz_25; exact zb_25; exact qN; rfl; rfl; (exact Nat.le_of_ble_eq_true rfl); exact qN; (focus ((repeat (first | exact Fil.nil | (apply Fil.one; rfl; rfl; (repeat (first | exact SetAt.zero | apply SetAt.succ))) | (apply Fil.agg; rfl; rfl; (repeat (first | exact SetN.nil | (apply SetN.cons; (repeat (first | exact SetAt.zero | apply SetAt.succ))))); (exact Nat.le_of_ble_eq_true rfl)))); done)); intro bk11); (apply ol_val; rfl; apply stp_pur; apply s_buildS; rfl; exact fs_25; exact zb_25; exact qR); (apply ol_val; rfl; apply s_alloc; exact zb_25; exact qN; intro bk1); (apply ol_eff; apply s_storeN; rfl; rfl; exact sz_25; rfl; rfl; exact qN; exact qN); (apply ol_nil))
    | (refine cw_region_id 2 ?_; (apply ol_ldN; rfl; rfl; rfl; exact sz_25; exact qQ); (apply ol_val; rfl; apply s_call; rfl; exact gf_12; (intro w' hw'; exact k1 w' (p := bk11) (q := bk9) (hw'.ok_ (by (repeat (first | exact Has.here | apply Has.there)))) (hw'.ok_ (by (repeat (first | exact Has.here | apply Has.there))))); ((intro v new h; obtain ⟨u, rfl, rE, AE, cE, spE, rfl, rfl, soE⟩ := h))); (apply ol_mv; rfl; rfl); (apply ol_ex; rfl; rfl; rfl); (apply ol_ex; rfl; rfl; rfl); (apply ol_as; rfl; rfl); (apply ol_as; rfl; rfl); (apply ol_nil))
    | (apply cw_cond_true; rfl; exact qA)
    | (apply cw_cond_false; rfl; exact qA)
    | apply cw_skip
    | apply cw_ret
    | apply cw_block
    | apply cw_exit
  repeat' first
    | apply cw_seq
    | (refine cw_region_id 3 ?_; (apply ol_ldN; rfl; rfl; rfl; exact sz_25; exact qQ); (apply ol_val; rfl; apply s_callv; rfl; exact gf_26; (intro w' hw'; exact k2 w' hw'.le (p := bk11) (q := bk9) (hw'.ok_ (by (repeat (first | exact Has.here | apply Has.there)))) (hw'.ok_ (by (repeat (first | exact Has.here | apply Has.there)))))); (apply ol_mv; rfl; rfl); (apply ol_ex; rfl; rfl; rfl); (apply ol_ex; rfl; rfl; rfl); (apply ol_as; rfl; rfl); (apply ol_as; rfl; rfl); (apply ol_nil))
    | (refine cw_region_id 4 ?_; (apply ol_val; rfl; apply s_buildSl; rfl; exact el_22; exact sz_5; exact zb_5; exact qN; rfl; rfl; (exact Nat.le_of_ble_eq_true rfl); exact qN; exact qR; intro bk24); (apply ol_val; rfl; apply s_callM (xs := []); rfl; exact gf_17; (focus ((repeat (first | exact Pk.nil | (apply Pk.cons; (repeat (first | exact Spl.here | apply Spl.there))))); done)); (intro w' M2 hw' hrd; exact k3 w' (hw'.ok_ (by (repeat (first | exact Has.here | apply Has.there))))); (intro v F25 ys M25 h hl25 hL25 hF25; obtain ⟨rfl, rfl⟩ := h)); (apply ol_mv; rfl; rfl); (apply ol_ex; rfl; rfl; rfl); (apply ol_ex; rfl; rfl; rfl); (apply ol_val; rfl; apply s_alloc; exact zb_25; exact qN; intro bk6); (apply ol_eff; apply s_storeN; rfl; rfl; exact sz_25; rfl; rfl; exact qN; exact qN); (apply ol_as; rfl; rfl); (apply ol_nil))
    | (apply cw_cond_true; rfl; exact qA)
    | (apply cw_cond_false; rfl; exact qA)
    | apply cw_skip
    | apply cw_ret
    | apply cw_block
    | apply cw_exit
  repeat' first
    | apply cw_seq
    | (refine cw_region_id 5 ?_; (apply ol_mv; rfl; rfl); (apply ol_val; rfl; apply s_buildSl; rfl; exact el_22; exact sz_5; exact zb_5; exact qN; rfl; rfl; (exact Nat.le_of_ble_eq_true rfl); exact qN; exact qR; intro bk29); (apply ol_val; rfl; apply s_callv; rfl; exact gf_16; (intro w' hw'; exact k4 w' soE (hw'.ok_ (by (repeat (first | exact Has.here | apply Has.there)))) (hw'.ok_ (by (repeat (first | exact Has.here | apply Has.there)))))); (apply ol_mv; rfl; rfl); (first | (apply ol_gskip; rfl; rfl; exact qA; rfl) | (apply ol_gval; rfl; rfl; rfl; exact qA; apply stp_pur; apply s_move; rfl)); (first | (apply ol_gskip; rfl; rfl; exact qA; rfl) | (apply ol_gval; rfl; rfl; rfl; exact qA; apply stp_pur; apply s_eqlStrT; rfl; rfl; exact hse) | (apply ol_gval; rfl; rfl; rfl; exact qA; apply stp_cmp; apply s_eql; rfl; rfl; all_goals (intro hc33; try (exfalso; (first | exact hc33 rfl | omega))))); all_goals (apply ol_val; rfl; apply stp_pur; first | (apply s_pick_t; rfl; exact qA; rfl) | (apply s_pick_f; rfl; exact qA; rfl)); all_goals (apply ol_mv; rfl; rfl); all_goals (first | (apply ol_gskip; rfl; rfl; exact qA; rfl) | (apply ol_gval; rfl; rfl; rfl; exact qA; apply stp_pur; apply s_move; rfl)); all_goals (first | (apply ol_gskip; rfl; rfl; exact qA; rfl) | (apply ol_gval; rfl; rfl; rfl; exact qA; apply stp_pur; apply s_eqlStrT; rfl; rfl; exact hse) | (apply ol_gval; rfl; rfl; rfl; exact qA; apply stp_cmp; apply s_eql; rfl; rfl; all_goals (intro hc37; try (exfalso; (first | exact hc37 rfl | omega))))); all_goals (apply ol_val; rfl; apply stp_pur; first | (apply s_pick_t; rfl; exact qA; rfl) | (apply s_pick_f; rfl; exact qA; rfl)); all_goals (apply ol_mv; rfl; rfl); all_goals (first | (apply ol_gskip; rfl; rfl; exact qA; rfl) | (apply ol_gval; rfl; rfl; rfl; exact qA; apply stp_pur; apply s_move; rfl)); all_goals (first | (apply ol_gskip; rfl; rfl; exact qA; rfl) | (apply ol_gval; rfl; rfl; rfl; exact qA; apply stp_pur; apply s_eqlStrT; rfl; rfl; exact hse) | (apply ol_gval; rfl; rfl; rfl; exact qA; apply stp_cmp; apply s_eql; rfl; rfl; all_goals (intro hc41; try (exfalso; (first | exact hc41 rfl | omega))))); all_goals (apply ol_val; rfl; apply stp_pur; first | (apply s_pick_t; rfl; exact qA; rfl) | (apply s_pick_f; rfl; exact qA; rfl)); all_goals (apply ol_mv; rfl; rfl); all_goals (first | (apply ol_gskip; rfl; rfl; exact qA; rfl) | (apply ol_gval; rfl; rfl; rfl; exact qA; apply stp_pur; apply s_move; rfl)); all_goals (first | (apply ol_gskip; rfl; rfl; exact qA; rfl) | (apply ol_gval; rfl; rfl; rfl; exact qA; apply stp_pur; apply s_eqlStrT; rfl; rfl; exact hse) | (apply ol_gval; rfl; rfl; rfl; exact qA; apply stp_cmp; apply s_eql; rfl; rfl; all_goals (intro hc45; try (exfalso; (first | exact hc45 rfl | omega))))); all_goals (apply ol_val; rfl; apply stp_pur; first | (apply s_pick_t; rfl; exact qA; rfl) | (apply s_pick_f; rfl; exact qA; rfl)); all_goals (apply ol_as; rfl; rfl); all_goals (apply ol_nil))
    | (apply cw_cond_true; rfl; exact qA)
    | (apply cw_cond_false; rfl; exact qA)
    | apply cw_skip
    | apply cw_ret
    | apply cw_block
    | apply cw_exit
  all_goals (refine ends [] (RVal.tmp rfl RVal.nil) Pick.nil ?_; rfl)
end Go.Proofs.YtkkfgeekdaalmaaDoor
namespace Go.Proofs.YtkkfgeekdaalmaaDoor
set_option maxRecDepth 20000
set_option linter.unusedSimpArgs false
set_option linter.unusedVariables false
open Go Go.Fw
structure XSt where
  i : Nat
  ys : List Int
end Go.Proofs.YtkkfgeekdaalmaaDoor
namespace Go.Proofs.YtkkfgeekdaalmaaDoor
set_option maxRecDepth 20000
set_option linter.unusedSimpArgs false
set_option linter.unusedVariables false
open Go Go.Fw
def stopL (r : List Int) : Prop := r = [] ∨ ∃ k t, r = k :: t ∧ (k = 32 ∨ k = 41)
def noStop (a : List Int) : Prop := ∀ x ∈ a, x ≠ 32 ∧ x ≠ 41
end Go.Proofs.YtkkfgeekdaalmaaDoor
namespace Go.Proofs.YtkkfgeekdaalmaaDoor
set_option maxRecDepth 20000
set_option linter.unusedSimpArgs false
set_option linter.unusedVariables false
open Go Go.Fw
def tl32 (l : List (List Int)) : List Int := l.flatMap fun x => 32 :: x
end Go.Proofs.YtkkfgeekdaalmaaDoor
namespace Go.Proofs.YtkkfgeekdaalmaaDoor
set_option maxRecDepth 20000
set_option linter.unusedSimpArgs false
set_option linter.unusedVariables false
open Go Go.Fw
/-- A text is at most three times as long as the bytes. -/
theorem txH_len {h : Hd} (ok : okH h = true) (hn : -9223372036854775808 ≤ h.n ∧ h.n ≤ 9223372036854775807) : (txH h).length + 1 ≤ 3 * (encH h).length := by
  unfold okH at ok
  have ok := of_decide_eq_true ok
  rcases ok with ⟨k, _⟩ | ⟨k, _⟩
  · rw [txH_1 k, encH_1 k]
    have : (itx h.n).length ≤ 21 := by
      unfold itx
      split
      · have := txt_len_le (b := 10) (n := (-h.n).toNat) (k := 20) (by decide) (by decide) (by omega)
        rw [List.length_cons]; omega
      · have := txt_len_le (b := 10) (n := h.n.toNat) (k := 20) (by decide) (by decide) (by omega)
        omega
    rw [List.length_append, bI_length, List.length_singleton]
    omega
  · rw [txH_2 k, encH_2 k, List.length_cons, hexs_length, List.length_append, List.length_append, bI_length, List.length_singleton]
    omega
theorem tl32_len {d : Nat} : ∀ {L : List (It d)}, (∀ x ∈ L, (txI d x).length + 1 ≤ 3 * (encI d x).length) → (tl32 (L.map (txI d))).length ≤ 3 * (L.flatMap (encI d)).length
  | [], _ => by simp [tl32]
  | a :: L, h => by
    have h1 := h a (List.mem_cons_self ..)
    have h2 := tl32_len (fun x hx => h x (List.mem_cons_of_mem _ hx))
    unfold tl32 at h2 ⊢
    rw [List.map_cons, List.flatMap_cons, List.flatMap_cons, List.length_append, List.length_append, List.length_cons]
    omega
theorem tx_len : ∀ {d : Nat} {x : It d}, okI d x = true → rgI d x → (txI d x).length + 1 ≤ 3 * (encI d x).length
  | 0, h, ok, hr => txH_len ok hr
  | d + 1, (h, L), ok, ⟨hr, hrL⟩ => by
    by_cases k1 : h.k = 3
    · rw [okI_list k1, Bool.and_eq_true, List.all_eq_true] at ok
      have := tl32_len (L := L) (fun x hx => tx_len (ok.2 x hx) (hrL x hx))
      have hj : (jn (L.map (txI d))).length ≤ (tl32 (L.map (txI d))).length := by unfold jn tl32; rw [List.length_tail]; omega
      rw [txI_list k1, encI_list k1, List.length_cons, List.length_append, List.length_append, List.length_append, bI_length, List.length_singleton, List.length_singleton]
      omega
    · have k1' : (It.hd (d := d + 1) (h, L)).k ≠ 3 := k1
      rw [okI_leaf (.inl k1')] at ok
      rw [txI_leaf (.inl k1'), encI_leaf (.inl k1')]
      exact txH_len ok hr
theorem nR_of : ∀ {d : Nat} {x : It d}, rgI d x → nR d x
  | 0, h, hr => ⟨hr.1, Int.lt_of_le_of_lt hr.2 (by decide)⟩
  | d + 1, (h, L), ⟨hr, hrL⟩ => ⟨⟨hr.1, Int.lt_of_le_of_lt hr.2 (by decide)⟩, fun x hx => nR_of (hrL x hx)⟩
end Go.Proofs.YtkkfgeekdaalmaaDoor
namespace Go.Proofs.YtkkfgeekdaalmaaDoor
set_option maxRecDepth 20000
set_option linter.unusedSimpArgs false
set_option linter.unusedVariables false
open Go Go.Fw
structure VSt where
  i : Nat
  r : Option Nat
  c : Nat
  sp : List Value
/-- What Numbers says: the error and the numbers. -/
def nsP : It 8 → Nat × List Int
  | (h, L) => if okI 8 (h, L) = false then (1, []) else if h.k ≠ 3 then (3, []) else if (L.any fun y : It 7 => decide (y.hd.k ≠ 1)) = true then (3, []) else (0, L.map fun y : It 7 => y.hd.n)
def NRs (p : Nat × List Int) (v : Value) (new : List OB) : Prop := ∃ u, v = .tuple #[u, .int .i64 p.1] ∧ RowRes (eK .i64) 1 3 p.2 u new
theorem RowRes.nil3 : RowRes (eK .i64) 1 3 [] (.slice none 0 0) [⟨none, [], 3⟩] := RowRes.zero (eK .i64) 1 3
/-- What Number says: the number and the error. -/
def nuP (x : It 8) : Int × Nat := if okI 8 x = false then (0, 1) else if x.hd.k ≠ 1 then (0, 3) else (x.hd.n, 0)
theorem any_stop {α : Type} {p : α → Bool} {L : List α} {i : Nat} (h : i < L.length) (hp : p L[i] = true) : L.any p = true := List.any_eq_true.2 ⟨_, List.getElem_mem h, hp⟩
theorem any_none {α : Type} {p : α → Bool} {L : List α} (h : ∀ i (hi : i < L.length), p L[i] = false) : L.any p = false := by
  rw [List.any_eq_false]
  intro x hx
  obtain ⟨i, hi, rfl⟩ := List.mem_iff_getElem.1 hx
  rw [h i hi]
  exact Bool.false_ne_true
theorem map_take_succ {α β : Type} (f : α → β) {L : List α} {i : Nat} (h : i < L.length) : (L.take (i + 1)).map f = (L.take i).map f ++ [f L[i]] := by rw [List.take_succ_eq_append_getElem h, List.map_append]; rfl
end Go.Proofs.YtkkfgeekdaalmaaDoor
namespace Go.Proofs.YtkkfgeekdaalmaaDoor
set_option maxRecDepth 20000
set_option linter.unusedSimpArgs false
set_option linter.unusedVariables false
open Go Go.Fw
attribute [local irreducible] CW OL OD FX Stp FnC FnV FnA Ret bI encI okI lfN lfE
set_option maxHeartbeats 1600000
theorem number_spec2 {M : View} {w : World} (hM : View.le M (View.of w)) {x : It 8} (hx : ItV M 8 x) :
    FnC Tryd.prog 28 [.agg x.enc.toArray] w (fun v _ => v = .tuple #[.int .i64 (nuP x).1, .int .i64 (nuP x).2]) := by
  have kv := fun (w' : World) (h : View.le M (View.of w')) => valid_spec h hx
  unfold nuP
  unfold It.enc at *
  generalize x.hd = h at *
  obtain ⟨k, n, ⟨xs, Ba, Bb, Bo, Bc⟩, La, Lb, Lo, Lc, m⟩ := h
  dsimp only at kv ⊢
  refine enterF (M := M) Tryd.func28 rfl rfl rfl rfl hM ?_
  cases hok : okI 8 x with
  | false =>
    rw [hok] at kv
    rw [if_pos rfl]
    repeat' first
      | apply cw_seq
      | (refine cw_region_id 0 ?_; (apply ol_val; rfl; first | (apply s_boxN; rfl; intro bk1) | (apply s_box1; rfl; rfl; intro bk1)); (apply ol_as; rfl; rfl); (apply ol_as; rfl; rfl); (apply ol_nil))
      | (refine cw_region_id 1 ?_; (apply ol_ldN; rfl; rfl; rfl; exact sz_25; exact qQ); (apply ol_val; rfl; apply s_callv; rfl; exact gf_14; (intro w' hw'; exact kv w' hw'.le)); (apply ol_val; rfl; apply stp_pur; first | (apply s_not_t; rfl; exact qA) | (apply s_not_f; rfl; exact qA) | (apply s_not; rfl)); (apply ol_nil))
      | (refine cw_region_id 2 ?_; (apply ol_as; rfl; rfl); (apply ol_as; rfl; rfl); (apply ol_nil))
      | (refine cw_region_id 3 ?_; (apply ol_fa; rfl; rfl; exact fd_25_0; exact qZ); (apply ol_ld; rfl; rfl; rfl; exact qP); (apply ol_val; rfl; apply stp_cmp; apply s_neq; rfl; rfl; all_goals (intro hc9; try (exfalso; (first | exact hc9 rfl | omega)))); all_goals (apply ol_nil))
      | (refine cw_region_id 4 ?_; (apply ol_as; rfl; rfl); (apply ol_as; rfl; rfl); (apply ol_nil))
      | (refine cw_region_id 5 ?_; (apply ol_fa; rfl; rfl; exact fd_25_1; exact qZ); (apply ol_ld; rfl; rfl; rfl; exact qP); (apply ol_as; rfl; rfl); (apply ol_as; rfl; rfl); (apply ol_nil))
      | (apply cw_cond_true; rfl; exact qA)
      | (apply cw_cond_false; rfl; exact qA)
      | apply cw_skip
      | apply cw_ret
      | apply cw_block
      | apply cw_exit
    all_goals (refine ends [] (RVal.tmp rfl (RVal.tmp rfl RVal.nil)) Pick.nil ?_; rfl)
  | true =>
    rw [hok] at kv
    rw [if_neg (fun h => by cases h)]
    by_cases hk : k = 1
    · rw [if_neg (fun h => h hk)]
      repeat' first
        | apply cw_seq
        | (refine cw_region_id 0 ?_; (apply ol_val; rfl; first | (apply s_boxN; rfl; intro bk1) | (apply s_box1; rfl; rfl; intro bk1)); (apply ol_as; rfl; rfl); (apply ol_as; rfl; rfl); (apply ol_nil))
        | (refine cw_region_id 1 ?_; (apply ol_ldN; rfl; rfl; rfl; exact sz_25; exact qQ); (apply ol_val; rfl; apply s_callv; rfl; exact gf_14; (intro w' hw'; exact kv w' hw'.le)); (apply ol_val; rfl; apply stp_pur; first | (apply s_not_t; rfl; exact qA) | (apply s_not_f; rfl; exact qA) | (apply s_not; rfl)); (apply ol_nil))
        | (refine cw_region_id 2 ?_; (apply ol_as; rfl; rfl); (apply ol_as; rfl; rfl); (apply ol_nil))
        | (refine cw_region_id 3 ?_; (apply ol_fa; rfl; rfl; exact fd_25_0; exact qZ); (apply ol_ld; rfl; rfl; rfl; exact qP); (apply ol_val; rfl; apply stp_cmp; apply s_neq; rfl; rfl; all_goals (intro hc9; try (exfalso; (first | exact hc9 rfl | omega)))); all_goals (apply ol_nil))
        | (refine cw_region_id 4 ?_; (apply ol_as; rfl; rfl); (apply ol_as; rfl; rfl); (apply ol_nil))
        | (refine cw_region_id 5 ?_; (apply ol_fa; rfl; rfl; exact fd_25_1; exact qZ); (apply ol_ld; rfl; rfl; rfl; exact qP); (apply ol_as; rfl; rfl); (apply ol_as; rfl; rfl); (apply ol_nil))
        | (apply cw_cond_true; rfl; exact qA)
        | (apply cw_cond_false; rfl; exact qA)
        | apply cw_skip
        | apply cw_ret
        | apply cw_block
        | apply cw_exit
      all_goals (refine ends [] (RVal.tmp rfl (RVal.tmp rfl RVal.nil)) Pick.nil ?_; rfl)
    · rw [if_pos hk]
      repeat' first
        | apply cw_seq
        | (refine cw_region_id 0 ?_; (apply ol_val; rfl; first | (apply s_boxN; rfl; intro bk1) | (apply s_box1; rfl; rfl; intro bk1)); (apply ol_as; rfl; rfl); (apply ol_as; rfl; rfl); (apply ol_nil))
        | (refine cw_region_id 1 ?_; (apply ol_ldN; rfl; rfl; rfl; exact sz_25; exact qQ); (apply ol_val; rfl; apply s_callv; rfl; exact gf_14; (intro w' hw'; exact kv w' hw'.le)); (apply ol_val; rfl; apply stp_pur; first | (apply s_not_t; rfl; exact qA) | (apply s_not_f; rfl; exact qA) | (apply s_not; rfl)); (apply ol_nil))
        | (refine cw_region_id 2 ?_; (apply ol_as; rfl; rfl); (apply ol_as; rfl; rfl); (apply ol_nil))
        | (refine cw_region_id 3 ?_; (apply ol_fa; rfl; rfl; exact fd_25_0; exact qZ); (apply ol_ld; rfl; rfl; rfl; exact qP); (apply ol_val; rfl; apply stp_cmp; apply s_neq; rfl; rfl; all_goals (intro hc9; try (exfalso; (first | exact hc9 rfl | omega)))); all_goals (apply ol_nil))
        | (refine cw_region_id 4 ?_; (apply ol_as; rfl; rfl); (apply ol_as; rfl; rfl); (apply ol_nil))
        | (refine cw_region_id 5 ?_; (apply ol_fa; rfl; rfl; exact fd_25_1; exact qZ); (apply ol_ld; rfl; rfl; rfl; exact qP); (apply ol_as; rfl; rfl); (apply ol_as; rfl; rfl); (apply ol_nil))
        | (apply cw_cond_true; rfl; exact qA)
        | (apply cw_cond_false; rfl; exact qA)
        | apply cw_skip
        | apply cw_ret
        | apply cw_block
        | apply cw_exit
      all_goals (refine ends [] (RVal.tmp rfl (RVal.tmp rfl RVal.nil)) Pick.nil ?_; rfl)
theorem views_clo {M : View} {w : World} (hM : View.le M (View.of w)) {d : Nat} {x : It d} :
    FnC Tryd.prog 31 [.agg x.enc.toArray] w (fun v _ => v = .bool (decide (x.hd.k ≠ 1))) := by
  unfold It.enc
  generalize x.hd = h at *
  obtain ⟨k, n, ⟨xs, Ba, Bb, Bo, Bc⟩, La, Lb, Lo, Lc, m⟩ := h
  dsimp only
  refine enterF (M := M) Tryd.func31 rfl rfl rfl rfl hM ?_
  by_cases hk : k = 1
  · rw [decide_eq_false (fun h => h hk)]
    repeat' first
      | apply cw_seq
      | (refine cw_region_id 0 ?_; (apply ol_val; rfl; first | (apply s_boxN; rfl; intro bk1) | (apply s_box1; rfl; rfl; intro bk1)); (apply ol_as; rfl; rfl); (apply ol_nil))
      | (refine cw_region_id 1 ?_; (apply ol_fa; rfl; rfl; exact fd_25_0; exact qZ); (apply ol_ld; rfl; rfl; rfl; exact qP); (apply ol_val; rfl; apply stp_cmp; apply s_neq; rfl; rfl; all_goals (intro hc5; try (exfalso; (first | exact hc5 rfl | omega)))); all_goals (apply ol_as; rfl; rfl); all_goals (apply ol_nil))
      | (apply cw_cond_true; rfl; exact qA)
      | (apply cw_cond_false; rfl; exact qA)
      | apply cw_skip
      | apply cw_ret
      | apply cw_block
      | apply cw_exit
    all_goals (refine ends [] (RVal.tmp rfl RVal.nil) Pick.nil ?_; rfl)
  · rw [decide_eq_true hk]
    repeat' first
      | apply cw_seq
      | (refine cw_region_id 0 ?_; (apply ol_val; rfl; first | (apply s_boxN; rfl; intro bk1) | (apply s_box1; rfl; rfl; intro bk1)); (apply ol_as; rfl; rfl); (apply ol_nil))
      | (refine cw_region_id 1 ?_; (apply ol_fa; rfl; rfl; exact fd_25_0; exact qZ); (apply ol_ld; rfl; rfl; rfl; exact qP); (apply ol_val; rfl; apply stp_cmp; apply s_neq; rfl; rfl; all_goals (intro hc5; try (exfalso; (first | exact hc5 rfl | omega)))); all_goals (apply ol_as; rfl; rfl); all_goals (apply ol_nil))
      | (apply cw_cond_true; rfl; exact qA)
      | (apply cw_cond_false; rfl; exact qA)
      | apply cw_skip
      | apply cw_ret
      | apply cw_block
      | apply cw_exit
    all_goals (refine ends [] (RVal.tmp rfl RVal.nil) Pick.nil ?_; rfl)
theorem eqInts_spec {M : View} {w : World} (hM : View.le M (View.of w)) (xs ys : List Int) {n1 n2 : Nat} (e1 : xs.length = n1) (e2 : ys.length = n2) {a1 a2 : Option Addr} {b1 o1 c1 b2 o2 c2 : Nat} (s1 : SlA M (eK .i64) 1 a1 xs b1 o1) (s2 : SlA M (eK .i64) 1 a2 ys b2 o2) (hl : n1 ≤ 4611686018427387904) :
    FnC Tryd.prog 32 [.slice a1 n1 c1, .slice a2 n2 c2] w (fun v _ => v = .bool (decide (xs = ys))) := by
  subst e1 e2
  refine enterF (M := M) Tryd.func32 rfl rfl rfl rfl hM ?_
  by_cases hlen : xs.length = ys.length
  · have hlen' : (xs.length : Int) = ys.length := by omega
    repeat' first
      | apply cw_seq
      | (refine cw_region_id 0 ?_; (apply ol_as; rfl; rfl); (apply ol_nil))
      | (refine cw_region_id 1 ?_; (apply ol_mv; rfl; rfl); (apply ol_val; rfl; apply stp_pur; apply s_len; rfl; exact el_45); (apply ol_mv; rfl; rfl); (apply ol_val; rfl; apply stp_pur; apply s_len; rfl; exact el_45); (apply ol_val; rfl; apply stp_cmp; apply s_neq; rfl; rfl; all_goals (intro hc10; try (exfalso; (first | exact hc10 rfl | omega)))); all_goals (apply ol_nil))
      | (refine cw_region_id 2 ?_; (apply ol_as; rfl; rfl); (apply ol_nil))
      | (refine cw_region_id 3 ?_; (apply ol_mv; rfl; rfl); (apply ol_val; rfl; apply stp_pur; apply s_len; rfl; exact el_45); (apply ol_mv; rfl; rfl); (apply ol_nil))
      | (apply cw_cond_true; rfl; exact qA)
      | (apply cw_cond_false; rfl; exact qA)
      | apply cw_skip
      | apply cw_ret
      | apply cw_block
      | apply cw_exit
    refine cw_loopK (σ := Nat) [0, 1, 12] (by (repeat (first | exact Keep.nil | (apply Keep.cons; rfl)))) (fun k => [(13, .int .i64 k)]) (fun _ => M) (fun _ => []) (fun k => k ≤ xs.length ∧ xs.take k = ys.take k) (fun k => xs.length - k) 0 (by (repeat (first | exact trivial | refine And.intro rfl ?_))) (View.le.refl _) Pick.nil ⟨by omega, by simp⟩ ?_
    intro k ⟨hk, ht⟩
    by_cases hkl : k < xs.length
    · have hkl2 : k < ys.length := by omega
      have c1 := s1.cells k hkl
      have c2 := s2.cells k hkl2
      by_cases he : xs[k] = ys[k]
      · have hst : xs.take (k + 1) = ys.take (k + 1) := by rw [List.take_succ_eq_append_getElem hkl, List.take_succ_eq_append_getElem hkl2, ht, he]
        rw [he] at c1
        generalize ys[k] = z at *
        repeat' first
          | apply cw_seq
          | (refine cw_region_id 4 ?_; (apply ol_val; rfl; apply stp_cmp; apply s_lss; rfl; rfl; all_goals (intro hc14; try (exfalso; (first | exact hc14 rfl | omega)))); all_goals (apply ol_nil))
          | (refine cw_region_id 5 ?_; (apply ol_mv; rfl; rfl); (apply ol_as; rfl; rfl); (apply ol_nil))
          | (refine cw_draw (id := 6) 9 (.mv 0 (.mv 1 (.mv 2 (.mv 3 (.mv 4 (.mv 5 (.mv 6 (.mv 7 (.mv 8 (PT.nil)))))))))) mixed (by kernel_rfl) ?_; (apply od_mv; rfl; rfl; apply s_move; rfl); (apply od_mv; rfl; rfl; apply s_move; rfl); (apply od_mv; rfl; rfl; first | (apply s_indexK; rfl; rfl; exact el_45; exact sz_3; (first | rfl | exact s1.at_ (by omega) | exact s2.at_ (by omega)); omega) | (apply s_indexO; rfl; rfl; exact el_45; exact sz_3; (first | rfl | exact s1.at_ (by omega) | exact s2.at_ (by omega)); omega)); (apply od_mv; rfl; rfl; apply s_load1; rfl; rfl; (first | exact qP | (apply RdN.view; first | exact c1 | exact c2))); (apply od_mv; rfl; rfl; apply s_move; rfl); (apply od_mv; rfl; rfl; apply s_move; rfl); (apply od_mv; rfl; rfl; first | (apply s_indexK; rfl; rfl; exact el_45; exact sz_3; (first | rfl | exact s1.at_ (by omega) | exact s2.at_ (by omega)); omega) | (apply s_indexO; rfl; rfl; exact el_45; exact sz_3; (first | rfl | exact s1.at_ (by omega) | exact s2.at_ (by omega)); omega)); (apply od_mv; rfl; rfl; apply s_load1; rfl; rfl; (first | exact qP | (apply RdN.view; first | exact c1 | exact c2))); (apply od_cmp; rfl; rfl; apply s_neq; rfl; rfl; all_goals (intro hc24; try (exfalso; (first | exact hc24 rfl | omega)))); all_goals (apply od_nil; (first | exact Wk.refl _ _ | exact qW)); all_goals (apply ol_nil))
          | (refine cw_region_id 7 ?_; (apply ol_as; rfl; rfl); (apply ol_nil))
          | (refine cw_region_id 8 ?_; (apply ol_val; rfl; apply stp_pur; apply s_add64; rfl; rfl; omega); (apply ol_mv; rfl; rfl); (apply ol_nil))
          | (refine cw_region_id 9 ?_; (apply ol_as; rfl; rfl); (apply ol_nil))
          | (apply cw_cond_true; rfl; exact qA)
          | (apply cw_cond_false; rfl; exact qA)
          | apply cw_skip
          | apply cw_ret
          | apply cw_block
          | apply cw_exit
        all_goals (exact ⟨k + 1, ⟨by (repeat (first | exact trivial | refine And.intro rfl ?_)), View.le.refl _, Pick.nil, ⟨by omega, hst⟩, by omega⟩⟩)
      · have hne : decide (xs = ys) = false := decide_eq_false fun e => he (by subst e; rfl)
        rw [hne]
        generalize ys[k] = z at *
        generalize xs[k] = z2 at *
        repeat' first
          | apply cw_seq
          | (refine cw_region_id 4 ?_; (apply ol_val; rfl; apply stp_cmp; apply s_lss; rfl; rfl; all_goals (intro hc14; try (exfalso; (first | exact hc14 rfl | omega)))); all_goals (apply ol_nil))
          | (refine cw_region_id 5 ?_; (apply ol_mv; rfl; rfl); (apply ol_as; rfl; rfl); (apply ol_nil))
          | (refine cw_draw (id := 6) 9 (.mv 0 (.mv 1 (.mv 2 (.mv 3 (.mv 4 (.mv 5 (.mv 6 (.mv 7 (.mv 8 (PT.nil)))))))))) mixed (by kernel_rfl) ?_; (apply od_mv; rfl; rfl; apply s_move; rfl); (apply od_mv; rfl; rfl; apply s_move; rfl); (apply od_mv; rfl; rfl; first | (apply s_indexK; rfl; rfl; exact el_45; exact sz_3; (first | rfl | exact s1.at_ (by omega) | exact s2.at_ (by omega)); omega) | (apply s_indexO; rfl; rfl; exact el_45; exact sz_3; (first | rfl | exact s1.at_ (by omega) | exact s2.at_ (by omega)); omega)); (apply od_mv; rfl; rfl; apply s_load1; rfl; rfl; (first | exact qP | (apply RdN.view; first | exact c1 | exact c2))); (apply od_mv; rfl; rfl; apply s_move; rfl); (apply od_mv; rfl; rfl; apply s_move; rfl); (apply od_mv; rfl; rfl; first | (apply s_indexK; rfl; rfl; exact el_45; exact sz_3; (first | rfl | exact s1.at_ (by omega) | exact s2.at_ (by omega)); omega) | (apply s_indexO; rfl; rfl; exact el_45; exact sz_3; (first | rfl | exact s1.at_ (by omega) | exact s2.at_ (by omega)); omega)); (apply od_mv; rfl; rfl; apply s_load1; rfl; rfl; (first | exact qP | (apply RdN.view; first | exact c1 | exact c2))); (apply od_cmp; rfl; rfl; apply s_neq; rfl; rfl; all_goals (intro hc24; try (exfalso; (first | exact hc24 rfl | omega)))); all_goals (apply od_nil; (first | exact Wk.refl _ _ | exact qW)); all_goals (apply ol_nil))
          | (refine cw_region_id 7 ?_; (apply ol_as; rfl; rfl); (apply ol_nil))
          | (refine cw_region_id 8 ?_; (apply ol_val; rfl; apply stp_pur; apply s_add64; rfl; rfl; omega); (apply ol_mv; rfl; rfl); (apply ol_nil))
          | (refine cw_region_id 9 ?_; (apply ol_as; rfl; rfl); (apply ol_nil))
          | (apply cw_cond_true; rfl; exact qA)
          | (apply cw_cond_false; rfl; exact qA)
          | apply cw_skip
          | apply cw_ret
          | apply cw_block
          | apply cw_exit
        all_goals (refine ends [] (RVal.tmp rfl RVal.nil) Pick.nil ?_; rfl)
    · have e : k = xs.length := by omega
      subst e
      rw [List.take_length, hlen, List.take_length] at ht
      rw [decide_eq_true ht]
      repeat' first
        | apply cw_seq
        | (refine cw_region_id 4 ?_; (apply ol_val; rfl; apply stp_cmp; apply s_lss; rfl; rfl; all_goals (intro hc14; try (exfalso; (first | exact hc14 rfl | omega)))); all_goals (apply ol_nil))
        | (refine cw_region_id 5 ?_; (apply ol_mv; rfl; rfl); (apply ol_as; rfl; rfl); (apply ol_nil))
        | (refine cw_draw (id := 6) 9 (.mv 0 (.mv 1 (.mv 2 (.mv 3 (.mv 4 (.mv 5 (.mv 6 (.mv 7 (.mv 8 (PT.nil)))))))))) mixed (by kernel_rfl) ?_; (apply od_mv; rfl; rfl; apply s_move; rfl); (apply od_mv; rfl; rfl; apply s_move; rfl); (apply od_mv; rfl; rfl; first | (apply s_indexK; rfl; rfl; exact el_45; exact sz_3; (first | rfl); omega) | (apply s_indexO; rfl; rfl; exact el_45; exact sz_3; (first | rfl); omega)); (apply od_mv; rfl; rfl; apply s_load1; rfl; rfl; exact qP); (apply od_mv; rfl; rfl; apply s_move; rfl); (apply od_mv; rfl; rfl; apply s_move; rfl); (apply od_mv; rfl; rfl; first | (apply s_indexK; rfl; rfl; exact el_45; exact sz_3; (first | rfl); omega) | (apply s_indexO; rfl; rfl; exact el_45; exact sz_3; (first | rfl); omega)); (apply od_mv; rfl; rfl; apply s_load1; rfl; rfl; exact qP); (apply od_cmp; rfl; rfl; apply s_neq; rfl; rfl; all_goals (intro hc24; try (exfalso; (first | exact hc24 rfl | omega)))); all_goals (apply od_nil; (first | exact Wk.refl _ _ | exact qW)); all_goals (apply ol_nil))
        | (refine cw_region_id 7 ?_; (apply ol_as; rfl; rfl); (apply ol_nil))
        | (refine cw_region_id 8 ?_; (apply ol_val; rfl; apply stp_pur; apply s_add64; rfl; rfl; omega); (apply ol_mv; rfl; rfl); (apply ol_nil))
        | (refine cw_region_id 9 ?_; (apply ol_as; rfl; rfl); (apply ol_nil))
        | (apply cw_cond_true; rfl; exact qA)
        | (apply cw_cond_false; rfl; exact qA)
        | apply cw_skip
        | apply cw_ret
        | apply cw_block
        | apply cw_exit
      all_goals (refine ends [] (RVal.tmp rfl RVal.nil) Pick.nil ?_; rfl)
  · have hlen' : ¬ (xs.length : Int) = ys.length := by omega
    have : xs ≠ ys := fun e => hlen (by rw [e])
    rw [decide_eq_false this]
    repeat' first
      | apply cw_seq
      | (refine cw_region_id 0 ?_; (apply ol_as; rfl; rfl); (apply ol_nil))
      | (refine cw_region_id 1 ?_; (apply ol_mv; rfl; rfl); (apply ol_val; rfl; apply stp_pur; apply s_len; rfl; exact el_45); (apply ol_mv; rfl; rfl); (apply ol_val; rfl; apply stp_pur; apply s_len; rfl; exact el_45); (apply ol_val; rfl; apply stp_cmp; apply s_neq; rfl; rfl; all_goals (intro hc10; try (exfalso; (first | exact hc10 rfl | omega)))); all_goals (apply ol_nil))
      | (refine cw_region_id 2 ?_; (apply ol_as; rfl; rfl); (apply ol_nil))
      | (refine cw_region_id 3 ?_; (apply ol_mv; rfl; rfl); (apply ol_val; rfl; apply stp_pur; apply s_len; rfl; exact el_45); (apply ol_mv; rfl; rfl); (apply ol_nil))
      | (apply cw_cond_true; rfl; exact qA)
      | (apply cw_cond_false; rfl; exact qA)
      | apply cw_skip
      | apply cw_ret
      | apply cw_block
      | apply cw_exit
    all_goals (refine ends [] (RVal.tmp rfl RVal.nil) Pick.nil ?_; rfl)
theorem ints2_spec {M : View} {w : World} (hM : View.le M (View.of w)) {ns : List Int} {n cc : Nat} {a : Option Addr} {b o : Nat} (hn : ns.length = n) (hn1 : n ≤ 2000) (s : SlA M (eK .i64) 1 a ns b o) :
    FnC Tryd.prog 30 [.slice a n cc] w (IntsR ns) := by
  subst hn
  refine enterF (M := M) Tryd.func30 rfl rfl rfl rfl hM ?_
  refine cw_none 25 ?_
  repeat' first
    | apply cw_seq
    | (refine cw_region_id 0 ?_; (apply ol_val; rfl; apply s_alloc; exact zb_25; exact qN; intro bk2); (apply ol_nil))
    | (refine cw_region_id 1 ?_; (apply ol_val; rfl; apply stp_pur; apply s_buildS; rfl; exact fs_25; exact zb_25; exact qR); (apply ol_val; rfl; apply s_alloc; exact zb_25; exact qN; intro bk3); (apply ol_eff; apply s_storeN; rfl; rfl; exact sz_25; rfl; rfl; exact qN; exact qN); (apply ol_nil))
    | (refine cw_region_id 2 ?_; (apply ol_mv; rfl; rfl); (apply ol_val; rfl; apply stp_pur; apply s_len; rfl; exact el_45); (apply ol_mv; rfl; rfl); (apply ol_nil))
    | (apply cw_cond_true; rfl; exact qA)
    | (apply cw_cond_false; rfl; exact qA)
    | apply cw_skip
    | apply cw_ret
    | apply cw_block
    | apply cw_exit
  refine cw_loopK (σ := NSt) [2, 3, 7, 8] (by (repeat (first | exact Keep.nil | (apply Keep.cons; rfl)))) (fun s => [(9, .int .i64 s.j)]) (fun _ => M) (fun s => [⟨s.r, flat lfE (ns.take s.j) ++ s.sp, 25⟩, ⟨some bk3, [.int .i64 3, .int .i64 0, .slice none 0 0, .slice (base s.r none) s.j s.c], 25⟩, ⟨some bk2, [.int .i64 0, .int .i64 0, .slice none 0 0, .slice none 0 0], 25⟩]) (fun s => s.j ≤ ns.length ∧ SO s.r s.j s.c (flat lfE (ns.take s.j)) s.sp 4) (fun s => ns.length - s.j) ⟨0, none, 0, []⟩ (by (repeat (first | exact trivial | refine And.intro rfl ?_))) (View.le.refl _) (by rw [List.take_zero]; exact qK) ⟨Nat.zero_le _, by rw [List.take_zero]; exact SO.nil 4⟩ ?_
  rintro ⟨i, r, c, sp⟩ ⟨hi, so⟩
  dsimp only at hi so
  dsimp only
  by_cases hin : i < ns.length
  · have hci := s.cells i hin
    have hst := List.take_succ_eq_append_getElem hin
    have hfl : flat lfE (ns.take (i + 1)) = flat lfE (ns.take i) ++ [.int .i64 1, .int .i64 ns[i], .slice none 0 0, .slice none 0 0] := by
      rw [hst, flat_append]
      congr 1
      show lfE ns[i] ++ [] = _
      rw [List.append_nil]
      unfold lfE
      rfl
    generalize ns[i] = z at *
    generalize ns.take i = P at *
    repeat' first
      | apply cw_seq
      | (refine cw_region_id 3 ?_; (apply ol_val; rfl; apply stp_cmp; apply s_lss; rfl; rfl; all_goals (intro hc10; try (exfalso; (first | exact hc10 rfl | omega)))); all_goals (apply ol_nil))
      | (refine cw_region_id 4 ?_; (apply ol_val; rfl; apply stp_pur; first | (apply s_indexK; rfl; rfl; exact el_45; exact sz_3; (first | rfl | exact s.at_ (by omega)); omega) | (apply s_indexO; rfl; rfl; exact el_45; exact sz_3; (first | rfl | exact s.at_ (by omega)); omega)); (apply ol_ld; rfl; rfl; rfl; (first | exact qP | (apply RdN.view; exact hci))); (apply ol_as; rfl; rfl); (apply ol_nil))
      | (refine cw_region_id 5 ?_; (apply ol_fa; rfl; rfl; exact fd_25_3; exact qZ); (apply ol_ld; rfl; rfl; rfl; (first | exact qP | (apply RdN.view; exact hci))); (apply ol_mv; rfl; rfl); (apply ol_val; rfl; apply stp_pur; apply s_buildS; rfl; exact fs_25; exact zb_25; exact qR); (apply ol_val; rfl; apply s_buildSl; rfl; exact el_23; exact sz_25; exact zb_25; exact qN; rfl; rfl; (exact Nat.le_of_ble_eq_true rfl); exact qN; (focus ((repeat (first | exact Fil.nil | (apply Fil.one; rfl; rfl; (repeat (first | exact SetAt.zero | apply SetAt.succ))) | (apply Fil.agg; rfl; rfl; (repeat (first | exact SetN.nil | (apply SetN.cons; (repeat (first | exact SetAt.zero | apply SetAt.succ))))); (exact Nat.le_of_ble_eq_true rfl)))); done)); intro bk17); (apply ol_val; rfl; first | (apply s_append_e; rfl; rfl; exact qN; exact el_23; exact sz_25; exact zb_25; rfl; exact by_25; (first | exact (fun _ => rfl) | (intro _; exact s.at_ (by omega))); (first | exact qQ); (first | rfl | exact ones_flat lfE_ones _); exact qO; exact qO; intro rk18 sk18 ck18 ok18) | (apply s_append_r; rfl; rfl; exact qN; (first | rfl | exact (List.append_nil _).symm); exact el_23; exact sz_25; exact zb_25; rfl; exact by_25; (first | exact SO.nil _ | assumption | (exact ⟨by simp, by simp, Nat.le_refl _, by simp⟩)); (first | exact (fun _ => rfl) | (intro _; exact s.at_ (by omega))); (first | exact qQ); (first | rfl | exact ones_flat lfE_ones _); exact qO; exact qO; intro rk18 sk18 ck18 ok18) | (apply s_append_b; rfl; rfl; exact qN; (first | rfl | exact (List.append_nil _).symm); exact el_23; exact sz_25; exact zb_25; rfl; exact by_25; (first | exact SO.nil _ | assumption | (exact ⟨by simp, by simp, Nat.le_refl _, by simp⟩)); (first | exact (fun _ => rfl) | (intro _; exact s.at_ (by omega))); (first | exact qQ); (first | rfl | exact ones_flat lfE_ones _); exact qO; exact qO; intro rk18 sk18 ck18 ok18) | (apply s_append_n; rfl; rfl; exact qN; exact el_23; exact sz_25; exact zb_25; rfl; exact by_25; (first | exact (fun _ => rfl) | (intro _; exact s.at_ (by omega))); (first | exact qQ); (first | rfl | exact ones_flat lfE_ones _); exact qO; exact qO; intro rk18 sk18 ck18 ok18)); (apply ol_fa; rfl; rfl; exact fd_25_3; exact qZ); (apply ol_eff; apply s_store1; rfl; rfl; exact sz_23; rfl; exact qN; exact qT); (apply ol_nil))
      | (refine cw_region_id 6 ?_; (apply ol_val; rfl; apply stp_pur; apply s_add64; rfl; rfl; omega); (apply ol_mv; rfl; rfl); (apply ol_nil))
      | (refine cw_region_id 7 ?_; (apply ol_ldN; rfl; rfl; rfl; exact sz_25; (first | exact qQ | (apply RdN.view; exact hci))); (apply ol_eff; apply s_storeN; rfl; rfl; exact sz_25; rfl; rfl; exact qN; exact qN); (apply ol_nil))
      | (apply cw_cond_true; rfl; exact qA)
      | (apply cw_cond_false; rfl; exact qA)
      | apply cw_skip
      | apply cw_ret
      | apply cw_block
      | apply cw_exit
    rw [← hfl] at ok18
    exact ⟨⟨i + 1, rk18, ck18, sk18⟩, ⟨by (repeat (first | exact trivial | refine And.intro rfl ?_)), View.le.refl _, by dsimp only; rw [hfl]; exact qK, ⟨hin, ok18⟩, by dsimp only; omega⟩⟩
  · obtain rfl : i = ns.length := by omega
    rw [List.take_length] at so ⊢
    repeat' first
      | apply cw_seq
      | (refine cw_region_id 3 ?_; (apply ol_val; rfl; apply stp_cmp; apply s_lss; rfl; rfl; all_goals (intro hc10; try (exfalso; (first | exact hc10 rfl | omega)))); all_goals (apply ol_nil))
      | (refine cw_region_id 4 ?_; (apply ol_val; rfl; apply stp_pur; first | (apply s_indexK; rfl; rfl; exact el_45; exact sz_3; (first | rfl); omega) | (apply s_indexO; rfl; rfl; exact el_45; exact sz_3; (first | rfl); omega)); (apply ol_ld; rfl; rfl; rfl; exact qP); (apply ol_as; rfl; rfl); (apply ol_nil))
      | (refine cw_region_id 5 ?_; (apply ol_fa; rfl; rfl; exact fd_25_3; exact qZ); (apply ol_ld; rfl; rfl; rfl; exact qP); (apply ol_mv; rfl; rfl); (apply ol_val; rfl; apply stp_pur; apply s_buildS; rfl; exact fs_25; exact zb_25; exact qR); (apply ol_val; rfl; apply s_buildSl; rfl; exact el_23; exact sz_25; exact zb_25; exact qN; rfl; rfl; (exact Nat.le_of_ble_eq_true rfl); exact qN; (focus ((repeat (first | exact Fil.nil | (apply Fil.one; rfl; rfl; (repeat (first | exact SetAt.zero | apply SetAt.succ))) | (apply Fil.agg; rfl; rfl; (repeat (first | exact SetN.nil | (apply SetN.cons; (repeat (first | exact SetAt.zero | apply SetAt.succ))))); (exact Nat.le_of_ble_eq_true rfl)))); done)); intro bk17); (apply ol_val; rfl; first | (apply s_append_e; rfl; rfl; exact qN; exact el_23; exact sz_25; exact zb_25; rfl; exact by_25; (first | exact (fun _ => rfl)); (first | exact qQ); (first | rfl); exact qO; exact qO; intro rk18 sk18 ck18 ok18) | (apply s_append_r; rfl; rfl; exact qN; (first | rfl | exact (List.append_nil _).symm); exact el_23; exact sz_25; exact zb_25; rfl; exact by_25; (first | exact SO.nil _ | assumption | (exact ⟨by simp, by simp, Nat.le_refl _, by simp⟩)); (first | exact (fun _ => rfl)); (first | exact qQ); (first | rfl); exact qO; exact qO; intro rk18 sk18 ck18 ok18) | (apply s_append_b; rfl; rfl; exact qN; (first | rfl | exact (List.append_nil _).symm); exact el_23; exact sz_25; exact zb_25; rfl; exact by_25; (first | exact SO.nil _ | assumption | (exact ⟨by simp, by simp, Nat.le_refl _, by simp⟩)); (first | exact (fun _ => rfl)); (first | exact qQ); (first | rfl); exact qO; exact qO; intro rk18 sk18 ck18 ok18) | (apply s_append_n; rfl; rfl; exact qN; exact el_23; exact sz_25; exact zb_25; rfl; exact by_25; (first | exact (fun _ => rfl)); (first | exact qQ); (first | rfl); exact qO; exact qO; intro rk18 sk18 ck18 ok18)); (apply ol_fa; rfl; rfl; exact fd_25_3; exact qZ); (apply ol_eff; apply s_store1; rfl; rfl; exact sz_23; rfl; exact qN; exact qT); (apply ol_nil))
      | (refine cw_region_id 6 ?_; (apply ol_val; rfl; apply stp_pur; apply s_add64; rfl; rfl; omega); (apply ol_mv; rfl; rfl); (apply ol_nil))
      | (refine cw_region_id 7 ?_; (apply ol_ldN; rfl; rfl; rfl; exact sz_25; exact qQ); (apply ol_eff; apply s_storeN; rfl; rfl; exact sz_25; rfl; rfl; exact qN; exact qN); (apply ol_nil))
      | (apply cw_cond_true; rfl; exact qA)
      | (apply cw_cond_false; rfl; exact qA)
      | apply cw_skip
      | apply cw_ret
      | apply cw_block
      | apply cw_exit
    refine ends [⟨r, flat lfE ns ++ sp, 25⟩] (RVal.cellN rfl rfl rfl (RdN.own (by (repeat (first | exact Has.here | apply Has.there))) (by focus ((repeat (first | rfl | constructor)); done))) RVal.nil) (by exact qK) ?_
    exact ⟨r, none, c, sp, rfl, rfl, so⟩
theorem numbers_spec2 {M : View} {w : World} (hM : View.le M (View.of w)) {x : It 8} (hx : ItV M 8 x) :
    FnC Tryd.prog 29 [.agg x.enc.toArray] w (NRs (nsP x)) := by
  have kv := fun (w' : World) (h : View.le M (View.of w')) => valid_spec h hx
  obtain ⟨h, L⟩ := x
  have e : nsP (h, L) = if okI 8 (h, L) = false then (1, []) else if h.k ≠ 3 then (3, []) else if (L.any fun y : It 7 => decide (y.hd.k ≠ 1)) = true then (3, []) else (0, L.map fun y : It 7 => y.hd.n) := rfl
  rw [e]
  clear e
  obtain ⟨hv, hl, sL, hLi⟩ := hx
  have hlist := okI_list (d := 7) (h := h) (L := L)
  unfold It.enc at *
  have ehd : It.hd (d := 8) (h, L) = h := rfl
  simp only [ehd] at hl sL hLi kv hlist ⊢
  clear ehd
  obtain ⟨k, n, ⟨xs, Ba, Bb, Bo, Bc⟩, La, Lb, Lo, Lc, m⟩ := h
  dsimp only at hl sL kv hlist ⊢
  refine enterF (M := M) Tryd.func29 rfl rfl rfl rfl hM ?_
  refine cw_none 3 ?_
  refine cw_none 3 ?_
  cases hok : okI 8 ((⟨k, n, ⟨xs, Ba, Bb, Bo, Bc⟩, La, Lb, Lo, Lc, m⟩, L) : It 8) with
  | false =>
    rw [hok] at kv
    rw [if_pos rfl]
    repeat' first
      | apply cw_seq
      | (refine cw_region_id 0 ?_; (apply ol_val; rfl; first | (apply s_boxN; rfl; intro bk1) | (apply s_box1; rfl; rfl; intro bk1)); (apply ol_as; rfl; rfl); (apply ol_as; rfl; rfl); (apply ol_nil))
      | (refine cw_region_id 1 ?_; (apply ol_ldN; rfl; rfl; rfl; exact sz_25; exact qQ); (apply ol_val; rfl; apply s_callv; rfl; exact gf_14; (intro w' hw'; exact kv w' hw'.le)); (apply ol_val; rfl; apply stp_pur; first | (apply s_not_t; rfl; exact qA) | (apply s_not_f; rfl; exact qA) | (apply s_not; rfl)); (apply ol_nil))
      | (refine cw_region_id 2 ?_; (apply ol_as; rfl; rfl); (apply ol_as; rfl; rfl); (apply ol_nil))
      | (apply cw_cond_true; rfl; exact qA)
      | (apply cw_cond_false; rfl; exact qA)
      | apply cw_skip
      | apply cw_ret
      | apply cw_block
      | apply cw_exit
    refine ends [⟨none, [], 3⟩] (RVal.tmp rfl (RVal.tmp rfl RVal.nil)) (by exact qK) ?_
    exact ⟨_, rfl, RowRes.nil3⟩
  | true =>
    rw [hok] at kv
    rw [if_neg (fun h => by cases h)]
    by_cases hk : k = 3
    · rw [hlist hk, Bool.and_eq_true, decide_eq_true_eq] at hok
      obtain ⟨⟨hn0, hB0, hm⟩, _⟩ := hok
      rw [if_neg (fun h => h hk)]
      clear hlist
      repeat' first
        | apply cw_seq
        | (refine cw_region_id 0 ?_; (apply ol_val; rfl; first | (apply s_boxN; rfl; intro bk1) | (apply s_box1; rfl; rfl; intro bk1)); (apply ol_as; rfl; rfl); (apply ol_as; rfl; rfl); (apply ol_nil))
        | (refine cw_region_id 1 ?_; (apply ol_ldN; rfl; rfl; rfl; exact sz_25; exact qQ); (apply ol_val; rfl; apply s_callv; rfl; exact gf_14; (intro w' hw'; exact kv w' hw'.le)); (apply ol_val; rfl; apply stp_pur; first | (apply s_not_t; rfl; exact qA) | (apply s_not_f; rfl; exact qA) | (apply s_not; rfl)); (apply ol_nil))
        | (refine cw_region_id 3 ?_; (apply ol_fa; rfl; rfl; exact fd_25_0; exact qZ); (apply ol_ld; rfl; rfl; rfl; exact qP); (apply ol_val; rfl; apply stp_cmp; apply s_neq; rfl; rfl; all_goals (intro hc12; try (exfalso; (first | exact hc12 rfl | omega)))); all_goals (apply ol_nil))
        | (refine cw_region_id 5 ?_; (apply ol_as; rfl; rfl); (apply ol_nil))
        | (refine cw_region_id 6 ?_; (apply ol_fa; rfl; rfl; exact fd_25_3; exact qZ); (apply ol_ld; rfl; rfl; rfl; exact qP); (apply ol_val; rfl; apply stp_pur; apply s_len; rfl; exact el_23); (apply ol_mv; rfl; rfl); (apply ol_nil))
        | (apply cw_cond_true; rfl; exact qA)
        | (apply cw_cond_false; rfl; exact qA)
        | apply cw_skip
        | apply cw_ret
        | apply cw_block
        | apply cw_exit
      refine cw_loopK (σ := VSt) [14, 15] (by (repeat (first | exact Keep.nil | (apply Keep.cons; rfl)))) (fun s => [(4, .slice (base s.r none) s.i s.c), (16, .int .i64 s.i)]) (fun _ => M) (fun s => [⟨s.r, flat (eK .i64) ((L.take s.i).map fun y : It 7 => y.hd.n) ++ s.sp, 3⟩, ⟨none, [], 3⟩]) (fun s => (s.i ≤ m ∧ ∀ j (hj : j < L.length), j < s.i → L[j].hd.k = 1) ∧ SO s.r s.i s.c (flat (eK .i64) ((L.take s.i).map fun y : It 7 => y.hd.n)) s.sp 1) (fun s => m - s.i) ⟨0, none, 0, []⟩ (by (repeat (first | exact trivial | refine And.intro rfl ?_))) (View.le.refl _) (by dsimp only; rw [List.take_zero]; exact qK) ⟨⟨Nat.zero_le _, fun j _ h => absurd h (Nat.not_lt_zero _)⟩, by dsimp only; rw [List.take_zero]; exact SO.nil 1⟩ ?_
      rintro ⟨i, r, c, sp⟩ ⟨⟨hi, hall⟩, so⟩
      dsimp only at hi so hall
      dsimp only
      by_cases him : i < m
      · have hil : i < L.length := by omega
        have hci := sL.cells i hil
        by_cases h1 : L[i].hd.k = 1
        · have hmt := map_take_succ (fun y : It 7 => y.hd.n) hil
          have hall2 : ∀ j (hj : j < L.length), j < i + 1 → L[j].hd.k = 1 := fun j hj h => by
            by_cases e : j = i
            · subst e; exact h1
            · exact hall j hj (by omega)
          have hfl : flat (eK .i64) ((L.take (i + 1)).map fun y : It 7 => y.hd.n) = flat (eK .i64) ((L.take i).map fun y : It 7 => y.hd.n) ++ [.int .i64 L[i].hd.n] := by rw [hmt, flat_append]; rfl
          generalize (L.take i).map (fun y : It 7 => y.hd.n) = O at *
          clear hmt hall hLi
          generalize L[i].hd = g at *
          obtain ⟨gk, gn, ⟨gxs, gBa, gBb, gBo, gBc⟩, gLa, gLb, gLo, gLc, gm⟩ := g
          dsimp only at h1 hci hfl
          repeat' first
            | apply cw_seq
            | (refine cw_region_id 7 ?_; (apply ol_val; rfl; apply stp_cmp; apply s_lss; rfl; rfl; all_goals (intro hc17; try (exfalso; (first | exact hc17 rfl | omega)))); all_goals (apply ol_nil))
            | (refine cw_region_id 8 ?_; (apply ol_val; rfl; apply stp_pur; first | (apply s_indexK; rfl; rfl; exact el_23; exact sz_25; (first | rfl | exact sL.at_ (by omega)); omega) | (apply s_indexO; rfl; rfl; exact el_23; exact sz_25; (first | rfl | exact sL.at_ (by omega)); omega)); (apply ol_ldN; rfl; rfl; rfl; exact sz_25; (first | exact qQ | (apply RdN.view; exact hci))); (apply ol_val; rfl; apply s_alloc; exact zb_25; exact qN; intro bk6); (apply ol_eff; apply s_storeN; rfl; rfl; exact sz_25; rfl; rfl; exact qN; exact qN); (apply ol_nil))
            | (refine cw_region_id 9 ?_; (apply ol_fa; rfl; rfl; exact fd_25_0; exact qZ); (apply ol_ld; rfl; rfl; rfl; (first | exact qP | (apply RdN.view; exact hci))); (apply ol_val; rfl; apply stp_cmp; apply s_neq; rfl; rfl; all_goals (intro hc22; try (exfalso; (first | exact hc22 rfl | omega)))); all_goals (apply ol_nil))
            | (refine cw_region_id 11 ?_; (apply ol_mv; rfl; rfl); (apply ol_fa; rfl; rfl; exact fd_25_1; exact qZ); (apply ol_ld; rfl; rfl; rfl; (first | exact qP | (apply RdN.view; exact hci))); (apply ol_val; rfl; apply s_buildSl; rfl; exact el_45; exact sz_3; exact zb_3; exact qN; rfl; rfl; (exact Nat.le_of_ble_eq_true rfl); exact qN; exact qR; intro bk26); (apply ol_val; rfl; first | (apply s_append_e; rfl; rfl; exact qN; exact el_45; exact sz_3; exact zb_3; rfl; exact by_3; (first | exact (fun _ => rfl) | (intro _; exact sL.at_ (by omega))); (first | exact qQ); (first | rfl); exact qO; exact qO; intro rk27 sk27 ck27 ok27) | (apply s_append_r; rfl; rfl; exact qN; (first | rfl | exact (List.append_nil _).symm); exact el_45; exact sz_3; exact zb_3; rfl; exact by_3; (first | exact SO.nil _ | assumption | (exact ⟨by simp, by simp, Nat.le_refl _, by simp⟩)); (first | exact (fun _ => rfl) | (intro _; exact sL.at_ (by omega))); (first | exact qQ); (first | rfl); exact qO; exact qO; intro rk27 sk27 ck27 ok27) | (apply s_append_b; rfl; rfl; exact qN; (first | rfl | exact (List.append_nil _).symm); exact el_45; exact sz_3; exact zb_3; rfl; exact by_3; (first | exact SO.nil _ | assumption | (exact ⟨by simp, by simp, Nat.le_refl _, by simp⟩)); (first | exact (fun _ => rfl) | (intro _; exact sL.at_ (by omega))); (first | exact qQ); (first | rfl); exact qO; exact qO; intro rk27 sk27 ck27 ok27) | (apply s_append_n; rfl; rfl; exact qN; exact el_45; exact sz_3; exact zb_3; rfl; exact by_3; (first | exact (fun _ => rfl) | (intro _; exact sL.at_ (by omega))); (first | exact qQ); (first | rfl); exact qO; exact qO; intro rk27 sk27 ck27 ok27)); (apply ol_as; rfl; rfl); (apply ol_nil))
            | (refine cw_region_id 12 ?_; (apply ol_val; rfl; apply stp_pur; apply s_add64; rfl; rfl; omega); (apply ol_mv; rfl; rfl); (apply ol_nil))
            | (apply cw_cond_true; rfl; exact qA)
            | (apply cw_cond_false; rfl; exact qA)
            | apply cw_skip
            | apply cw_ret
            | apply cw_block
            | apply cw_exit
          refine ⟨⟨i + 1, rk27, ck27, sk27⟩, ⟨?_, View.le.refl _, ?_, ⟨⟨him, hall2⟩, ?_⟩, by dsimp only; omega⟩⟩
          · (repeat (first | exact trivial | refine And.intro rfl ?_))
          · dsimp only
            rw [hfl]
            exact qK
          · dsimp only
            rw [hfl]
            exact ok27
        · have hany : (L.any fun y : It 7 => decide (y.hd.k ≠ 1)) = true := any_stop hil (decide_eq_true h1)
          rw [if_pos hany]
          generalize (L.take i).map (fun y : It 7 => y.hd.n) = O at *
          clear hall hLi hany
          generalize L[i].hd = g at *
          obtain ⟨gk, gn, ⟨gxs, gBa, gBb, gBo, gBc⟩, gLa, gLb, gLo, gLc, gm⟩ := g
          dsimp only at h1 hci
          repeat' first
            | apply cw_seq
            | (refine cw_region_id 7 ?_; (apply ol_val; rfl; apply stp_cmp; apply s_lss; rfl; rfl; all_goals (intro hc17; try (exfalso; (first | exact hc17 rfl | omega)))); all_goals (apply ol_nil))
            | (refine cw_region_id 8 ?_; (apply ol_val; rfl; apply stp_pur; first | (apply s_indexK; rfl; rfl; exact el_23; exact sz_25; (first | rfl | exact sL.at_ (by omega)); omega) | (apply s_indexO; rfl; rfl; exact el_23; exact sz_25; (first | rfl | exact sL.at_ (by omega)); omega)); (apply ol_ldN; rfl; rfl; rfl; exact sz_25; (first | exact qQ | (apply RdN.view; exact hci))); (apply ol_val; rfl; apply s_alloc; exact zb_25; exact qN; intro bk6); (apply ol_eff; apply s_storeN; rfl; rfl; exact sz_25; rfl; rfl; exact qN; exact qN); (apply ol_nil))
            | (refine cw_region_id 9 ?_; (apply ol_fa; rfl; rfl; exact fd_25_0; exact qZ); (apply ol_ld; rfl; rfl; rfl; (first | exact qP | (apply RdN.view; exact hci))); (apply ol_val; rfl; apply stp_cmp; apply s_neq; rfl; rfl; all_goals (intro hc22; try (exfalso; (first | exact hc22 rfl | omega)))); all_goals (apply ol_nil))
            | (refine cw_region_id 10 ?_; (apply ol_as; rfl; rfl); (apply ol_as; rfl; rfl); (apply ol_nil))
            | (apply cw_cond_true; rfl; exact qA)
            | (apply cw_cond_false; rfl; exact qA)
            | apply cw_skip
            | apply cw_ret
            | apply cw_block
            | apply cw_exit
          refine ends [⟨none, [], 3⟩] (RVal.tmp rfl (RVal.tmp rfl RVal.nil)) (by exact qK) ?_
          exact ⟨_, rfl, RowRes.nil3⟩
      · have htk : L.take i = L := List.take_of_length_le (by omega)
        have hany : (L.any fun y : It 7 => decide (y.hd.k ≠ 1)) = false := any_none fun j hj => decide_eq_false fun h => h (hall j hj (by omega))
        rw [hany, if_neg (fun h => by cases h)]
        rw [htk] at so ⊢
        have hOl : (L.map fun y : It 7 => y.hd.n).length = i := by rw [List.length_map]; omega
        generalize L.map (fun y : It 7 => y.hd.n) = O at *
        repeat' first
          | apply cw_seq
          | (refine cw_region_id 7 ?_; (apply ol_val; rfl; apply stp_cmp; apply s_lss; rfl; rfl; all_goals (intro hc17; try (exfalso; (first | exact hc17 rfl | omega)))); all_goals (apply ol_nil))
          | (refine cw_region_id 13 ?_; (apply ol_mv; rfl; rfl); (apply ol_as; rfl; rfl); (apply ol_as; rfl; rfl); (apply ol_nil))
          | (apply cw_cond_true; rfl; exact qA)
          | (apply cw_cond_false; rfl; exact qA)
          | apply cw_skip
          | apply cw_ret
          | apply cw_block
          | apply cw_exit
        refine ends [⟨r, flat (eK .i64) O ++ sp, 3⟩] (RVal.tmp rfl (RVal.tmp rfl RVal.nil)) (by exact qK) ?_
        subst hOl
        exact ⟨_, rfl, r, none, c, sp, rfl, rfl, so⟩
    · rw [if_pos hk]
      repeat' first
        | apply cw_seq
        | (refine cw_region_id 0 ?_; (apply ol_val; rfl; first | (apply s_boxN; rfl; intro bk1) | (apply s_box1; rfl; rfl; intro bk1)); (apply ol_as; rfl; rfl); (apply ol_as; rfl; rfl); (apply ol_nil))
        | (refine cw_region_id 1 ?_; (apply ol_ldN; rfl; rfl; rfl; exact sz_25; exact qQ); (apply ol_val; rfl; apply s_callv; rfl; exact gf_14; (intro w' hw'; exact kv w' hw'.le)); (apply ol_val; rfl; apply stp_pur; first | (apply s_not_t; rfl; exact qA) | (apply s_not_f; rfl; exact qA) | (apply s_not; rfl)); (apply ol_nil))
        | (refine cw_region_id 3 ?_; (apply ol_fa; rfl; rfl; exact fd_25_0; exact qZ); (apply ol_ld; rfl; rfl; rfl; exact qP); (apply ol_val; rfl; apply stp_cmp; apply s_neq; rfl; rfl; all_goals (intro hc12; try (exfalso; (first | exact hc12 rfl | omega)))); all_goals (apply ol_nil))
        | (refine cw_region_id 4 ?_; (apply ol_as; rfl; rfl); (apply ol_as; rfl; rfl); (apply ol_nil))
        | (apply cw_cond_true; rfl; exact qA)
        | (apply cw_cond_false; rfl; exact qA)
        | apply cw_skip
        | apply cw_ret
        | apply cw_block
        | apply cw_exit
      refine ends [⟨none, [], 3⟩] (RVal.tmp rfl (RVal.tmp rfl RVal.nil)) (by exact qK) ?_
      exact ⟨_, rfl, RowRes.nil3⟩
end Go.Proofs.YtkkfgeekdaalmaaDoor
namespace Go.Fw
open Go
section
variable {C : Pr} {fm : FM} {M : View} {own : List OB} {d : Option Nat} {ty : TypeId} {pos : String} {af : Array Edge} {g : Option (Nat × Bool)} {t t' : TypeId} {x y : Operand} {m n : Int} {k1 : IntKind}
theorem s_quoT (hx : ev fm x = some (.int .i64 m)) (hy : ev fm y = some (.int .i64 n)) (h : -9223372036854775808 ≤ m ∧ m ≤ 9223372036854775807 ∧ 1 ≤ n) : Pur C ⟨d, .binOp .quo t x y t', ty, pos, af, g⟩ fm M own (.int .i64 (m.tdiv n)) :=
  s_arith hx hy (by rw [binOp_quo, Op.intDiv, if_neg (by omega), IntWalk.i64_quo' _ _ h])
theorem s_remT (hx : ev fm x = some (.int k1 m)) (hy : ev fm y = some (.int k1 n)) (h : 1 ≤ n) : Pur C ⟨d, .binOp .rem t x y t', ty, pos, af, g⟩ fm M own (.int k1 (m.tmod n)) :=
  s_arith hx hy (by rw [binOp_rem, Op.intDiv, if_neg (by omega)])
theorem s_catL {xs ys : List Int} {a : ByteArray} (ha : a = strOf xs) (hx : ev fm x = some (.string a)) (hy : ev fm y = some (.string (strOf ys))) (hs : xs.length + ys.length ≤ 9223372036854775807) :
    Pur C ⟨d, .binOp .add t x y t', ty, pos, af, g⟩ fm M own (.string (strOf (xs ++ ys))) := s_cat (ha ▸ hx) hy hs
theorem strOf_45 : (⟨#[45]⟩ : ByteArray) = strOf [45] := rfl
theorem strOf_32 : (⟨#[32]⟩ : ByteArray) = strOf [32] := rfl
theorem strOf_40 : (⟨#[40]⟩ : ByteArray) = strOf [40] := rfl
theorem strOf_41 : (⟨#[41]⟩ : ByteArray) = strOf [41] := rfl
end
end Go.Fw
namespace Go.Proofs.YtkkfgeekdaalmaaDoor
set_option maxRecDepth 20000
set_option linter.unusedSimpArgs false
set_option linter.unusedVariables false
open Go Go.Fw
theorem txt_cat {N : Nat} (h : ¬ N < 10) : txt 10 N = txt 10 (N / 10) ++ txt 10 (N % 10) := by
  rw [txt_step h, txt_digit (u := N % 10) (by omega)]
  congr 2
  unfold chr
  rw [if_pos (by omega)]
theorem txt_small {N : Nat} (h : N < 9223372036854775808 + 1) : (txt 10 N).length ≤ 19 := txt_len_le (by decide) (by decide) (by omega)
theorem itx_nat (N : Nat) : itx (N : Int) = txt 10 N := by unfold itx; rw [if_neg (by omega), Int.toNat_natCast]
theorem itx_neg {N : Nat} (h : 0 < N) : itx (-(N : Int)) = [45] ++ txt 10 N := by unfold itx; rw [if_pos (by omega), Int.neg_neg, Int.toNat_natCast]; rfl
end Go.Proofs.YtkkfgeekdaalmaaDoor
namespace Go.Proofs.YtkkfgeekdaalmaaDoor
set_option maxRecDepth 20000
set_option linter.unusedSimpArgs false
set_option linter.unusedVariables false
open Go Go.Fw
attribute [local irreducible] CW OL OD FX Stp FnC FnV FnA Ret strOf txt itx
set_option maxHeartbeats 800000
theorem dec_nat : ∀ (N : Nat), N ≤ 9223372036854775807 → ∀ (w : World), FnC Tryd.prog 45 [.int .i64 (N : Nat)] w (fun v _ => v = .string (strOf (txt 10 N))) := by
  intro N
  induction N using Nat.strongRecOn with
  | _ N ih =>
    intro hN w
    refine enterF (M := View.of w) Tryd.func45 rfl rfl rfl rfl (View.le.refl _) ?_
    by_cases h : N < 10
    · rw [txt_digit h]
      repeat' first
        | apply cw_seq
        | (refine cw_region_id 0 ?_; (apply ol_as; rfl; rfl); (apply ol_nil))
        | (refine cw_region_id 1 ?_; (apply ol_mv; rfl; rfl); (apply ol_val; rfl; apply stp_cmp; apply s_lss; rfl; rfl; all_goals (intro hc4; try (exfalso; (first | exact hc4 rfl | omega)))); all_goals (apply ol_nil))
        | (refine cw_region_id 5 ?_; (apply ol_mv; rfl; rfl); (apply ol_val; rfl; apply stp_cmp; apply s_gtr; rfl; rfl; all_goals (intro hc22; try (exfalso; (first | exact hc22 rfl | omega)))); all_goals (apply ol_nil))
        | (refine cw_region_id 7 ?_; (apply ol_mv; rfl; rfl); (apply ol_val; rfl; apply stp_pur; apply s_add64; rfl; rfl; omega); (apply ol_val; rfl; apply stp_pur; first | (apply s_conv; rfl; rfl; exact ti_5; (focus (apply wrap_u8; omega))) | (apply s_conv; rfl; rfl; exact ti_5; rfl)); (apply ol_val; rfl; apply s_buildSl; rfl; exact el_22; exact sz_5; exact zb_5; exact qN; rfl; rfl; (exact Nat.le_of_ble_eq_true rfl); exact qN; exact qR; intro bk33); (apply ol_val; rfl; apply stp_pur; apply s_convBS; rfl; exact el_22; exact tdInt_eq ti_5; exact us_9; exact (fun _ => rfl); exact (show ([48 + (N : Int)] : List Int).length = 1 from rfl); (apply RdN.own; (repeat (first | exact Has.here | apply Has.there)); exact (show GetN _ 0 1 [Value.int .u8 (48 + (N : Int))] from GetN.cons rfl GetN.nil))); (apply ol_as; rfl; rfl); (apply ol_nil))
        | (apply cw_cond_true; rfl; exact qA)
        | (apply cw_cond_false; rfl; exact qA)
        | apply cw_skip
        | apply cw_ret
        | apply cw_block
        | apply cw_exit
      all_goals (refine ends [] (RVal.tmp rfl RVal.nil) Pick.nil ?_; rfl)
    · have k1 := fun (w' : World) => ih (N / 10) (by omega) (by omega) w'
      have k2 := fun (w' : World) => ih (N % 10) (by omega) (by omega) w'
      have e1 : ((N / 10 : Nat) : Int) = (N : Int) / 10 := by omega
      have e2 : ((N % 10 : Nat) : Int) = (N : Int) % 10 := by omega
      have l1 := txt_small (N := N / 10) (by omega)
      have l2 := txt_small (N := N % 10) (by omega)
      rw [txt_cat h]
      rw [e1] at k1
      rw [e2] at k2
      generalize txt 10 (N / 10) = X at *
      generalize txt 10 (N % 10) = Y at *
      clear ih
      repeat' first
        | apply cw_seq
        | (refine cw_region_id 0 ?_; (apply ol_as; rfl; rfl); (apply ol_nil))
        | (refine cw_region_id 1 ?_; (apply ol_mv; rfl; rfl); (apply ol_val; rfl; apply stp_cmp; apply s_lss; rfl; rfl; all_goals (intro hc4; try (exfalso; (first | exact hc4 rfl | omega)))); all_goals (apply ol_nil))
        | (refine cw_region_id 5 ?_; (apply ol_mv; rfl; rfl); (apply ol_val; rfl; apply stp_cmp; apply s_gtr; rfl; rfl; all_goals (intro hc22; try (exfalso; (first | exact hc22 rfl | omega)))); all_goals (apply ol_nil))
        | (refine cw_region_id 6 ?_; (apply ol_mv; rfl; rfl); (apply ol_val; rfl; apply stp_pur; first | (apply s_quo64; rfl; rfl; omega) | (apply s_quoT; rfl; rfl; omega)); (apply ol_val; rfl; apply s_callv; rfl; exact gf_45; (intro w' hw'; first | exact k1 w' | exact k2 w')); (apply ol_mv; rfl; rfl); (apply ol_val; rfl; apply stp_pur; first | (apply s_rem64; rfl; rfl; omega) | (apply s_remT; rfl; rfl; omega)); (apply ol_val; rfl; apply s_callv; rfl; exact gf_45; (intro w' hw'; first | exact k1 w' | exact k2 w')); (apply ol_val; rfl; apply stp_pur; apply s_cat; rfl; rfl; (first | omega)); (apply ol_as; rfl; rfl); (apply ol_nil))
        | (apply cw_cond_true; rfl; exact qA)
        | (apply cw_cond_false; rfl; exact qA)
        | apply cw_skip
        | apply cw_ret
        | apply cw_block
        | apply cw_exit
      all_goals (refine ends [] (RVal.tmp rfl RVal.nil) Pick.nil ?_; rfl)
theorem dec_spec (w : World) {n : Int} (h1 : -9223372036854775808 ≤ n) (h2 : n < 9223372036854775808) : FnC Tryd.prog 45 [.int .i64 n] w (fun v _ => v = .string (strOf (itx n))) := by
  by_cases hn : 0 ≤ n
  · obtain ⟨N, rfl⟩ : ∃ N : Nat, n = (N : Int) := ⟨n.toNat, by omega⟩
    rw [itx_nat]
    exact dec_nat N (by omega) w
  · obtain ⟨N, rfl⟩ : ∃ N : Nat, n = -(N : Int) := ⟨(-n).toNat, by omega⟩
    rw [itx_neg (by omega)]
    refine enterF (M := View.of w) Tryd.func45 rfl rfl rfl rfl (View.le.refl _) ?_
    by_cases h : N < 10
    · have k1 := fun (w' : World) => dec_nat N (by omega) w'
      have e1 : (N : Int) = 0 - -(N : Int) := by omega
      have l1 := txt_small (N := N) (by omega)
      generalize txt 10 N = X at *
      rw [e1] at k1
      clear e1
      repeat' first
        | apply cw_seq
        | (refine cw_region_id 0 ?_; (apply ol_as; rfl; rfl); (apply ol_nil))
        | (refine cw_region_id 1 ?_; (apply ol_mv; rfl; rfl); (first | (apply ol_val; rfl; apply stp_cmp; apply s_lss; rfl; rfl; all_goals (intro hc4; try (exfalso; (first | exact hc4 rfl | omega)))) | (apply ol_val; rfl; apply stp_cmp; apply s_gtr; rfl; rfl; all_goals (intro hc4; try (exfalso; (first | exact hc4 rfl | omega)))) | (apply ol_val; rfl; apply stp_pur; first | (apply s_sub64; rfl; rfl; omega) | (apply s_quoT; rfl; rfl; omega) | (apply s_remT; rfl; rfl; omega) | (apply s_catL strOf_45; rfl; rfl; (show 1 + _ ≤ _; omega)) | (apply s_cat; rfl; rfl; (rw [List.length_append]; show 1 + _ + _ ≤ _; omega)))); all_goals (apply ol_nil))
        | (refine cw_region_id 2 ?_; (apply ol_mv; rfl; rfl); (first | (apply ol_val; rfl; apply stp_cmp; apply s_lss; rfl; rfl; all_goals (intro hc6; try (exfalso; (first | exact hc6 rfl | omega)))) | (apply ol_val; rfl; apply stp_cmp; apply s_gtr; rfl; rfl; all_goals (intro hc6; try (exfalso; (first | exact hc6 rfl | omega)))) | (apply ol_val; rfl; apply stp_pur; first | (apply s_sub64; rfl; rfl; omega) | (apply s_quoT; rfl; rfl; omega) | (apply s_remT; rfl; rfl; omega) | (apply s_catL strOf_45; rfl; rfl; (show 1 + _ ≤ _; omega)) | (apply s_cat; rfl; rfl; (rw [List.length_append]; show 1 + _ + _ ≤ _; omega)))); all_goals (apply ol_nil))
        | (refine cw_region_id 3 ?_; (apply ol_mv; rfl; rfl); (first | (apply ol_val; rfl; apply stp_cmp; apply s_lss; rfl; rfl; all_goals (intro hc8; try (exfalso; (first | exact hc8 rfl | omega)))) | (apply ol_val; rfl; apply stp_cmp; apply s_gtr; rfl; rfl; all_goals (intro hc8; try (exfalso; (first | exact hc8 rfl | omega)))) | (apply ol_val; rfl; apply stp_pur; first | (apply s_sub64; rfl; rfl; omega) | (apply s_quoT; rfl; rfl; omega) | (apply s_remT; rfl; rfl; omega) | (apply s_catL strOf_45; rfl; rfl; (show 1 + _ ≤ _; omega)) | (apply s_cat; rfl; rfl; (rw [List.length_append]; show 1 + _ + _ ≤ _; omega)))); all_goals (apply ol_val; rfl; apply s_callv; rfl; exact gf_45; (intro w' hw'; exact k1 w')); all_goals (first | (apply ol_val; rfl; apply stp_cmp; apply s_lss; rfl; rfl; all_goals (intro hc10; try (exfalso; (first | exact hc10 rfl | omega)))) | (apply ol_val; rfl; apply stp_cmp; apply s_gtr; rfl; rfl; all_goals (intro hc10; try (exfalso; (first | exact hc10 rfl | omega)))) | (apply ol_val; rfl; apply stp_pur; first | (apply s_sub64; rfl; rfl; omega) | (apply s_quoT; rfl; rfl; omega) | (apply s_remT; rfl; rfl; omega) | (apply s_catL strOf_45; rfl; rfl; (show 1 + _ ≤ _; omega)) | (apply s_cat; rfl; rfl; (rw [List.length_append]; show 1 + _ + _ ≤ _; omega)))); all_goals (apply ol_as; rfl; rfl); all_goals (apply ol_nil))
        | (apply cw_cond_true; rfl; exact qA)
        | (apply cw_cond_false; rfl; exact qA)
        | apply cw_skip
        | apply cw_ret
        | apply cw_block
        | apply cw_exit
      all_goals (refine ends [] (RVal.tmp rfl RVal.nil) Pick.nil ?_; rfl)
    · have k1 := fun (w' : World) => dec_nat (N / 10) (by omega) w'
      have k2 := fun (w' : World) => dec_nat (N % 10) (by omega) w'
      have e1 : ((N / 10 : Nat) : Int) = 0 - (-(N : Int)).tdiv 10 := by rw [Int.neg_tdiv, Int.tdiv_eq_ediv_of_nonneg (by omega)]; omega
      have e2 : ((N % 10 : Nat) : Int) = 0 - (-(N : Int)).tmod 10 := by rw [Int.neg_tmod, Int.tmod_eq_emod_of_nonneg (by omega)]; omega
      have l1 := txt_small (N := N / 10) (by omega)
      have l2 := txt_small (N := N % 10) (by omega)
      rw [txt_cat h, ← List.append_assoc]
      rw [e1] at k1
      rw [e2] at k2
      generalize txt 10 (N / 10) = X at *
      generalize txt 10 (N % 10) = Y at *
      repeat' first
        | apply cw_seq
        | (refine cw_region_id 0 ?_; (apply ol_as; rfl; rfl); (apply ol_nil))
        | (refine cw_region_id 1 ?_; (apply ol_mv; rfl; rfl); (first | (apply ol_val; rfl; apply stp_cmp; apply s_lss; rfl; rfl; all_goals (intro hc4; try (exfalso; (first | exact hc4 rfl | omega)))) | (apply ol_val; rfl; apply stp_cmp; apply s_gtr; rfl; rfl; all_goals (intro hc4; try (exfalso; (first | exact hc4 rfl | omega)))) | (apply ol_val; rfl; apply stp_pur; first | (apply s_sub64; rfl; rfl; omega) | (apply s_quoT; rfl; rfl; omega) | (apply s_remT; rfl; rfl; omega) | (apply s_catL strOf_45; rfl; rfl; (show 1 + _ ≤ _; omega)) | (apply s_cat; rfl; rfl; (rw [List.length_append]; show 1 + _ + _ ≤ _; omega)))); all_goals (apply ol_nil))
        | (refine cw_region_id 2 ?_; (apply ol_mv; rfl; rfl); (first | (apply ol_val; rfl; apply stp_cmp; apply s_lss; rfl; rfl; all_goals (intro hc6; try (exfalso; (first | exact hc6 rfl | omega)))) | (apply ol_val; rfl; apply stp_cmp; apply s_gtr; rfl; rfl; all_goals (intro hc6; try (exfalso; (first | exact hc6 rfl | omega)))) | (apply ol_val; rfl; apply stp_pur; first | (apply s_sub64; rfl; rfl; omega) | (apply s_quoT; rfl; rfl; omega) | (apply s_remT; rfl; rfl; omega) | (apply s_catL strOf_45; rfl; rfl; (show 1 + _ ≤ _; omega)) | (apply s_cat; rfl; rfl; (rw [List.length_append]; show 1 + _ + _ ≤ _; omega)))); all_goals (apply ol_nil))
        | (refine cw_region_id 4 ?_; (apply ol_mv; rfl; rfl); (first | (apply ol_val; rfl; apply stp_cmp; apply s_lss; rfl; rfl; all_goals (intro hc12; try (exfalso; (first | exact hc12 rfl | omega)))) | (apply ol_val; rfl; apply stp_cmp; apply s_gtr; rfl; rfl; all_goals (intro hc12; try (exfalso; (first | exact hc12 rfl | omega)))) | (apply ol_val; rfl; apply stp_pur; first | (apply s_sub64; rfl; rfl; omega) | (apply s_quoT; rfl; rfl; omega) | (apply s_remT; rfl; rfl; omega) | (apply s_catL strOf_45; rfl; rfl; (show 1 + _ ≤ _; omega)) | (apply s_cat; rfl; rfl; (rw [List.length_append]; show 1 + _ + _ ≤ _; omega)))); all_goals (first | (apply ol_val; rfl; apply stp_cmp; apply s_lss; rfl; rfl; all_goals (intro hc13; try (exfalso; (first | exact hc13 rfl | omega)))) | (apply ol_val; rfl; apply stp_cmp; apply s_gtr; rfl; rfl; all_goals (intro hc13; try (exfalso; (first | exact hc13 rfl | omega)))) | (apply ol_val; rfl; apply stp_pur; first | (apply s_sub64; rfl; rfl; omega) | (apply s_quoT; rfl; rfl; omega) | (apply s_remT; rfl; rfl; omega) | (apply s_catL strOf_45; rfl; rfl; (show 1 + _ ≤ _; omega)) | (apply s_cat; rfl; rfl; (rw [List.length_append]; show 1 + _ + _ ≤ _; omega)))); all_goals (apply ol_val; rfl; apply s_callv; rfl; exact gf_45; (intro w' hw'; first | exact k1 w' | exact k2 w')); all_goals (first | (apply ol_val; rfl; apply stp_cmp; apply s_lss; rfl; rfl; all_goals (intro hc15; try (exfalso; (first | exact hc15 rfl | omega)))) | (apply ol_val; rfl; apply stp_cmp; apply s_gtr; rfl; rfl; all_goals (intro hc15; try (exfalso; (first | exact hc15 rfl | omega)))) | (apply ol_val; rfl; apply stp_pur; first | (apply s_sub64; rfl; rfl; omega) | (apply s_quoT; rfl; rfl; omega) | (apply s_remT; rfl; rfl; omega) | (apply s_catL strOf_45; rfl; rfl; (show 1 + _ ≤ _; omega)) | (apply s_cat; rfl; rfl; (rw [List.length_append]; show 1 + _ + _ ≤ _; omega)))); all_goals (apply ol_mv; rfl; rfl); all_goals (first | (apply ol_val; rfl; apply stp_cmp; apply s_lss; rfl; rfl; all_goals (intro hc17; try (exfalso; (first | exact hc17 rfl | omega)))) | (apply ol_val; rfl; apply stp_cmp; apply s_gtr; rfl; rfl; all_goals (intro hc17; try (exfalso; (first | exact hc17 rfl | omega)))) | (apply ol_val; rfl; apply stp_pur; first | (apply s_sub64; rfl; rfl; omega) | (apply s_quoT; rfl; rfl; omega) | (apply s_remT; rfl; rfl; omega) | (apply s_catL strOf_45; rfl; rfl; (show 1 + _ ≤ _; omega)) | (apply s_cat; rfl; rfl; (rw [List.length_append]; show 1 + _ + _ ≤ _; omega)))); all_goals (first | (apply ol_val; rfl; apply stp_cmp; apply s_lss; rfl; rfl; all_goals (intro hc18; try (exfalso; (first | exact hc18 rfl | omega)))) | (apply ol_val; rfl; apply stp_cmp; apply s_gtr; rfl; rfl; all_goals (intro hc18; try (exfalso; (first | exact hc18 rfl | omega)))) | (apply ol_val; rfl; apply stp_pur; first | (apply s_sub64; rfl; rfl; omega) | (apply s_quoT; rfl; rfl; omega) | (apply s_remT; rfl; rfl; omega) | (apply s_catL strOf_45; rfl; rfl; (show 1 + _ ≤ _; omega)) | (apply s_cat; rfl; rfl; (rw [List.length_append]; show 1 + _ + _ ≤ _; omega)))); all_goals (apply ol_val; rfl; apply s_callv; rfl; exact gf_45; (intro w' hw'; first | exact k1 w' | exact k2 w')); all_goals (first | (apply ol_val; rfl; apply stp_cmp; apply s_lss; rfl; rfl; all_goals (intro hc20; try (exfalso; (first | exact hc20 rfl | omega)))) | (apply ol_val; rfl; apply stp_cmp; apply s_gtr; rfl; rfl; all_goals (intro hc20; try (exfalso; (first | exact hc20 rfl | omega)))) | (apply ol_val; rfl; apply stp_pur; first | (apply s_sub64; rfl; rfl; omega) | (apply s_quoT; rfl; rfl; omega) | (apply s_remT; rfl; rfl; omega) | (apply s_catL strOf_45; rfl; rfl; (show 1 + _ ≤ _; omega)) | (apply s_cat; rfl; rfl; (rw [List.length_append]; show 1 + _ + _ ≤ _; omega)))); all_goals (apply ol_as; rfl; rfl); all_goals (apply ol_nil))
        | (apply cw_cond_true; rfl; exact qA)
        | (apply cw_cond_false; rfl; exact qA)
        | apply cw_skip
        | apply cw_ret
        | apply cw_block
        | apply cw_exit
      all_goals (refine ends [] (RVal.tmp rfl RVal.nil) Pick.nil ?_; rfl)
end Go.Proofs.YtkkfgeekdaalmaaDoor
namespace Go.Fw
open Go
section
variable {C : Pr} {fm : FM} {M : View} {own : List OB} {d : Option Nat} {ty : TypeId} {pos : String} {af : Array Edge} {g : Option (Nat × Bool)} {t t' : TypeId} {x y : Operand}
theorem s_catR {xs ys : List Int} {a : ByteArray} (ha : a = strOf ys) (hx : ev fm x = some (.string (strOf xs))) (hy : ev fm y = some (.string a)) (hs : xs.length + ys.length ≤ 9223372036854775807) :
    Pur C ⟨d, .binOp .add t x y t', ty, pos, af, g⟩ fm M own (.string (strOf (xs ++ ys))) := s_cat hx (ha ▸ hy) hs
end
end Go.Fw
namespace Go.Proofs.YtkkfgeekdaalmaaDoor
set_option maxRecDepth 20000
set_option linter.unusedSimpArgs false
set_option linter.unusedVariables false
open Go Go.Fw
theorem hex_inI {z : Int} (h : 0 ≤ z ∧ z < 16) : 0 ≤ z ∧ z < (hexS.size : Int) := ⟨h.1, h.2⟩
theorem hex_atI {z : Int} (h : 0 ≤ z ∧ z < 16) : ((hexS.data.toList.getD z.toNat 0).toNat : Int) = chr z.toNat := hex_at0 z.toNat (by omega)
end Go.Proofs.YtkkfgeekdaalmaaDoor
namespace Go.Proofs.YtkkfgeekdaalmaaDoor
set_option maxRecDepth 20000
set_option linter.unusedSimpArgs false
set_option linter.unusedVariables false
open Go Go.Fw
attribute [local irreducible] CW OL OD FX Stp FnC FnV FnA Ret strOf txt itx txI
set_option maxHeartbeats 1600000
theorem rtext_leaf {M : View} {w : World} (hM : View.le M (View.of w)) {d : Nat} {x : It d} (hv : HdV M x.hd) (hnr : -9223372036854775808 ≤ x.hd.n ∧ x.hd.n < 9223372036854775808) (hkk : x.hd.k = 1 ∨ x.hd.k = 2) (hn2 : (txH x.hd).length ≤ 1073741000) :
    FnC Tryd.prog 33 [.agg x.enc.toArray] w (fun v _ => v = .string (strOf (txH x.hd))) := by
  have e1 := txH_1 (h := x.hd)
  have e2 := txH_2 (h := x.hd)
  unfold It.enc
  generalize x.hd = h at *
  obtain ⟨k, nn, ⟨xs, Ba, Bb, Bo, Bc⟩, La, Lb, Lo, Lc, m⟩ := h
  dsimp only at hkk e1 e2 hnr ⊢
  obtain ⟨hvB, hvb, hvl, _⟩ := hv
  dsimp only at hvB hvb hvl
  refine enterF (M := M) Tryd.func33 rfl rfl rfl rfl hM ?_
  rcases hkk with rfl | rfl
  · rw [e1 rfl]
    have ku := fun (w' : World) => dec_spec w' hnr.1 hnr.2
    repeat' first
      | apply cw_seq
      | (refine cw_region_id 0 ?_; (apply ol_val; rfl; first | (apply s_boxN; rfl; intro bk1) | (apply s_box1; rfl; rfl; intro bk1)); (apply ol_as; rfl; rfl); (apply ol_nil))
      | (refine cw_region_id 1 ?_; (apply ol_fa; rfl; rfl; exact fd_25_0; exact qZ); (apply ol_ld; rfl; rfl; rfl; exact qP); (apply ol_nil))
      | (refine cw_region_id 2 ?_; (apply ol_val; rfl; apply stp_cmp; apply s_eql; rfl; rfl; all_goals (intro hc11; try (exfalso; (first | exact hc11 rfl | omega)))); all_goals (apply ol_as; rfl; rfl); all_goals (apply ol_nil))
      | (refine cw_region_id 3 ?_; (apply ol_fa; rfl; rfl; exact fd_25_1; exact qZ); (apply ol_ld; rfl; rfl; rfl; exact qP); (apply ol_val; rfl; apply s_callv; rfl; exact gf_45; (intro w' hw'; exact ku w')); (apply ol_as; rfl; rfl); (apply ol_nil))
      | (apply cw_cond_true; rfl; exact qA)
      | (apply cw_cond_false; rfl; exact qA)
      | apply cw_skip
      | apply cw_ret
      | apply cw_block
      | apply cw_exit
    all_goals (refine ends [] (RVal.tmp rfl RVal.nil) Pick.nil ?_; rfl)
  · rw [e2 rfl] at hn2 ⊢
    rw [List.length_cons, hexs_length] at hn2
    repeat' first
      | apply cw_seq
      | (refine cw_region_id 0 ?_; (apply ol_val; rfl; first | (apply s_boxN; rfl; intro bk1) | (apply s_box1; rfl; rfl; intro bk1)); (apply ol_as; rfl; rfl); (apply ol_nil))
      | (refine cw_region_id 1 ?_; (apply ol_fa; rfl; rfl; exact fd_25_0; exact qZ); (apply ol_ld; rfl; rfl; rfl; exact qP); (apply ol_nil))
      | (refine cw_region_id 2 ?_; (apply ol_val; rfl; apply stp_cmp; apply s_eql; rfl; rfl; all_goals (intro hc11; try (exfalso; (first | exact hc11 rfl | omega)))); all_goals (apply ol_as; rfl; rfl); all_goals (apply ol_nil))
      | (refine cw_region_id 4 ?_; (apply ol_val; rfl; apply stp_cmp; apply s_eql; rfl; rfl; all_goals (intro hc16; try (exfalso; (first | exact hc16 rfl | omega)))); all_goals (apply ol_as; rfl; rfl); all_goals (apply ol_nil))
      | (refine cw_region_id 5 ?_; (apply ol_val; rfl; apply s_buildSl; rfl; exact el_22; exact sz_5; exact zb_5; exact qN; rfl; rfl; (exact Nat.le_of_ble_eq_true rfl); exact qN; exact qR; intro bk17); (apply ol_as; rfl; rfl); (apply ol_nil))
      | (refine cw_region_id 6 ?_; (apply ol_as; rfl; rfl); (apply ol_nil))
      | (apply cw_cond_true; rfl; exact qA)
      | (apply cw_cond_false; rfl; exact qA)
      | apply cw_skip
      | apply cw_ret
      | apply cw_block
      | apply cw_exit
    refine cw_loopK (σ := TSt) [1] (by (repeat (first | exact Keep.nil | (apply Keep.cons; rfl)))) (fun s => [(3, .slice (base s.r none) (1 + 2 * s.i) s.c), (4, .int .i64 s.i)]) (fun _ => M) (fun s => [⟨s.r, flat (eK .u8) (120 :: (xs.take s.i).flatMap hexB) ++ s.sp, 5⟩, ⟨some bk1, [.int .i64 2, .int .i64 nn, .slice Ba xs.length Bc, .slice La m Lc], 25⟩]) (fun s => s.i ≤ xs.length ∧ SO s.r (1 + 2 * s.i) s.c (flat (eK .u8) (120 :: (xs.take s.i).flatMap hexB)) s.sp 1) (fun s => xs.length - s.i) ⟨0, some bk17, 1, []⟩ (by (repeat (first | exact trivial | refine And.intro rfl ?_))) (View.le.refl _) (by dsimp only; rw [List.take_zero, List.flatMap_nil]; exact qK) ⟨Nat.zero_le _, by dsimp only; rw [List.take_zero, List.flatMap_nil]; exact ⟨rfl, rfl, Nat.le_refl _, fun h => by cases h⟩⟩ ?_
    rintro ⟨i, r3, c3, sp3⟩ ⟨hi, so3⟩
    dsimp only at hi so3
    dsimp only
    by_cases him : i < xs.length
    · have hci := hvB.cells i him
      have hfm := flatMap_take_succ hexB him
      have hxb := hvb _ (List.getElem_mem him)
      have hfl : flat (eK .u8) (120 :: (xs.take (i + 1)).flatMap hexB) = flat (eK .u8) (120 :: (xs.take i).flatMap hexB) ++ [.int .u8 (chr ((xs[i]'him).toNat / 16)), .int .u8 (chr ((xs[i]'him).toNat % 16))] := by
        rw [hfm, ← List.cons_append, flat_append]
        rfl
      generalize 120 :: (xs.take i).flatMap hexB = Y at *
      have hi1 : 0 ≤ (xs[i]'him) / 16 ∧ (xs[i]'him) / 16 < 16 := by omega
      have hi2 : 0 ≤ (xs[i]'him) % 16 ∧ (xs[i]'him) % 16 < 16 := by omega
      have ha1 : ((hexS.data.toList.getD ((xs[i]'him) / 16).toNat 0).toNat : Int) = chr ((xs[i]'him).toNat / 16) := by
        rw [hex_atI hi1, show ((xs[i]'him) / 16).toNat = (xs[i]'him).toNat / 16 by omega]
      have ha2 : ((hexS.data.toList.getD ((xs[i]'him) % 16).toNat 0).toNat : Int) = chr ((xs[i]'him).toNat % 16) := by
        rw [hex_atI hi2, show ((xs[i]'him) % 16).toNat = (xs[i]'him).toNat % 16 by omega]
      generalize xs[i]'him = x at *
      repeat' first
        | apply cw_seq
        | (refine cw_region_id 7 ?_; (apply ol_mv; rfl; rfl); (apply ol_fa; rfl; rfl; exact fd_25_2; exact qZ); (apply ol_ld; rfl; rfl; rfl; (first | exact qP | (apply RdN.view; exact hci))); (apply ol_val; rfl; apply stp_pur; apply s_len; rfl; exact el_22); (apply ol_val; rfl; apply stp_cmp; apply s_lss; rfl; rfl; all_goals (intro hc22; try (exfalso; (first | exact hc22 rfl | omega)))); all_goals (apply ol_nil))
        | (refine cw_region_id 9 ?_; (apply ol_fa; rfl; rfl; exact fd_25_2; exact qZ); (apply ol_ld; rfl; rfl; rfl; (first | exact qP | (apply RdN.view; exact hci))); (apply ol_mv; rfl; rfl); (apply ol_val; rfl; apply stp_pur; first | (apply s_indexK; rfl; rfl; exact el_22; exact sz_5; (first | rfl | exact hvB.at_ (by omega)); omega) | (apply s_indexO; rfl; rfl; exact el_22; exact sz_5; (first | rfl | exact hvB.at_ (by omega)); omega)); (apply ol_ld; rfl; rfl; rfl; (first | exact qP | (apply RdN.view; exact hci))); (apply ol_val; rfl; apply stp_pur; first | (apply s_conv; rfl; rfl; exact ti_3; (focus (apply wrap_i64; omega))) | (apply s_conv; rfl; rfl; exact ti_3; rfl)); (apply ol_as; rfl; rfl); (apply ol_nil))
        | (apply cw_cond_true; rfl; exact qA)
        | (apply cw_cond_false; rfl; exact qA)
        | apply cw_skip
        | apply cw_ret
        | apply cw_block
        | apply cw_exit
      repeat' first
        | apply cw_seq
        | (refine cw_draw (id := 10) 8 (.mv 0 (.mv 1 (.mv 2 (.mv 3 (.mv 4 (.mv 5 (.mv 6 (.fx 7 (PT.nil))))))))) mixed (by kernel_rfl) ?_; (apply od_mv; rfl; rfl; apply s_move; rfl); (apply od_mv; rfl; rfl; apply s_move; rfl); (apply od_mv; rfl; rfl; first | (apply s_quo64; rfl; rfl; omega) | (apply s_quoT; rfl; rfl; omega)); (apply od_mv; rfl; rfl; first | (apply s_indexS; rfl; rfl; exact us_9; exact hex_inI hi1; exact ha1) | (apply s_indexS; rfl; rfl; exact us_9; exact hex_inI hi2; exact ha2)); (apply od_mv; rfl; rfl; apply s_move; rfl); (apply od_mv; rfl; rfl; first | (apply s_rem64; rfl; rfl; omega) | (apply s_remT; rfl; rfl; omega)); (apply od_mv; rfl; rfl; first | (apply s_indexS; rfl; rfl; exact us_9; exact hex_inI hi1; exact ha1) | (apply s_indexS; rfl; rfl; exact us_9; exact hex_inI hi2; exact ha2)); (apply od_fx; (first | exact Wk.refl _ _ | exact qW); (apply fx_val; rfl; rfl; apply s_buildSl; rfl; exact el_22; exact sz_5; exact zb_5; exact qN; rfl; rfl; (exact Nat.le_of_ble_eq_true rfl); exact qN; exact qR; intro bk38)); (apply od_nil; (first | exact Wk.refl _ _ | exact qW)); (apply ol_val; rfl; first | (apply s_append_e; rfl; rfl; exact qN; exact el_22; exact sz_5; exact zb_5; rfl; exact by_5; (first | exact (fun _ => rfl)); (first | exact qQ); (first | rfl); exact qO; exact qO; intro rk39 sk39 ck39 ok39) | (apply s_append_r; rfl; rfl; exact qN; (first | rfl | exact (List.append_nil _).symm); exact el_22; exact sz_5; exact zb_5; rfl; exact by_5; (first | exact SO.nil _ | assumption | (exact ⟨by simp, by simp, Nat.le_refl _, by simp⟩)); (first | exact (fun _ => rfl)); (first | exact qQ); (first | rfl); exact qO; exact qO; intro rk39 sk39 ck39 ok39) | (apply s_append_b; rfl; rfl; exact qN; (first | rfl | exact (List.append_nil _).symm); exact el_22; exact sz_5; exact zb_5; rfl; exact by_5; (first | exact SO.nil _ | assumption | (exact ⟨by simp, by simp, Nat.le_refl _, by simp⟩)); (first | exact (fun _ => rfl)); (first | exact qQ); (first | rfl); exact qO; exact qO; intro rk39 sk39 ck39 ok39) | (apply s_append_n; rfl; rfl; exact qN; exact el_22; exact sz_5; exact zb_5; rfl; exact by_5; (first | exact (fun _ => rfl)); (first | exact qQ); (first | rfl); exact qO; exact qO; intro rk39 sk39 ck39 ok39)); (apply ol_as; rfl; rfl); (apply ol_nil))
        | (refine cw_region_id 8 ?_; (apply ol_mv; rfl; rfl); (apply ol_val; rfl; apply stp_pur; apply s_add64; rfl; rfl; omega); (apply ol_as; rfl; rfl); (apply ol_nil))
        | (apply cw_cond_true; rfl; exact qA)
        | (apply cw_cond_false; rfl; exact qA)
        | apply cw_skip
        | apply cw_ret
        | apply cw_block
        | apply cw_exit
      rw [show 1 + 2 * i + 2 = 1 + 2 * (i + 1) by omega] at ok39 ⊢
      refine ⟨⟨i + 1, rk39, ck39, sk39⟩, ⟨by (repeat (first | exact trivial | refine And.intro rfl ?_)), View.le.refl _, by dsimp only; rw [hfl]; exact qK, ⟨him, ?_⟩, by dsimp only; omega⟩⟩
      dsimp only
      rw [hfl]
      exact ok39
    · have htk : xs.take i = xs := List.take_of_length_le (by omega)
      obtain rfl : i = xs.length := by omega
      rw [htk] at so3 ⊢
      have hl3 : (120 :: xs.flatMap hexB).length = 1 + 2 * xs.length := by rw [List.length_cons, hexs_length]; omega
      rcases r3 with _ | b3
      · exact absurd (so3.empty rfl) (by omega)
      · generalize 120 :: xs.flatMap hexB = Y at *
        repeat' first
          | apply cw_seq
          | (refine cw_region_id 7 ?_; (apply ol_mv; rfl; rfl); (apply ol_fa; rfl; rfl; exact fd_25_2; exact qZ); (apply ol_ld; rfl; rfl; rfl; exact qP); (apply ol_val; rfl; apply stp_pur; apply s_len; rfl; exact el_22); (apply ol_val; rfl; apply stp_cmp; apply s_lss; rfl; rfl; all_goals (intro hc22; try (exfalso; (first | exact hc22 rfl | omega)))); all_goals (apply ol_nil))
          | (refine cw_region_id 11 ?_; (apply ol_mv; rfl; rfl); (apply ol_val; rfl; apply stp_pur; apply s_convBS; rfl; exact el_22; exact tdInt_eq ti_5; exact us_9; exact (fun _ => rfl); exact hl3; (apply RdN.own; (repeat (first | exact Has.here | apply Has.there)); exact getNK_n hl3)); (apply ol_as; rfl; rfl); (apply ol_nil))
          | (apply cw_cond_true; rfl; exact qA)
          | (apply cw_cond_false; rfl; exact qA)
          | apply cw_skip
          | apply cw_ret
          | apply cw_block
          | apply cw_exit
        all_goals (refine ends [] (RVal.tmp rfl RVal.nil) Pick.nil ?_; rfl)
theorem rtext_spec : ∀ (d : Nat) {M : View} {w : World}, View.le M (View.of w) → ∀ {x : It d}, ItV M d x → nR d x → okI d x = true → (txI d x).length ≤ 1073741000 →
    FnC Tryd.prog 33 [.agg x.enc.toArray] w (fun v _ => v = .string (strOf (txI d x))) := by
  intro d
  induction d with
  | zero =>
    intro M w hM x hx hnr hok hn2
    rw [txI_leaf (.inr rfl)] at hn2 ⊢
    rw [okI_leaf (.inr rfl)] at hok
    exact rtext_leaf hM hx.head hnr.head (okH_k hok) hn2
  | succ d ih =>
    intro M w hM x hx hnr hok hn2
    by_cases h3 : x.hd.k = 3
    · obtain ⟨h, L⟩ := x
      obtain ⟨hv, hlL, sL, hL⟩ := hx
      obtain ⟨_, hnL⟩ := hnr
      have h3' : h.k = 3 := h3
      have e := txI_list (d := d) (L := L) h3'
      rw [okI_list h3', Bool.and_eq_true, decide_eq_true_eq, List.all_eq_true] at hok
      obtain ⟨⟨hn0, hB0, hm⟩, hall⟩ := hok
      rw [e] at hn2 ⊢
      have hxe : It.enc (d := d + 1) (h, L) = [.int .i64 h.k, .int .i64 h.n, .slice h.B.a h.B.xs.length h.B.c, .slice h.La h.m h.Lc] := rfl
      rw [hxe]
      clear hxe e h3
      obtain ⟨k, nn, ⟨xs, Ba, Bb, Bo, Bc⟩, La, Lb, Lo, Lc, m⟩ := h
      dsimp only at hv hlL sL h3' hm ⊢
      subst h3'
      have hle := fun i => jn_take_le L i (txI d)
      have hjt := fun i (h : i < L.length) => jn_take h (txI d)
      rw [List.length_cons, List.length_append] at hn2
      refine enterF (M := M) Tryd.func33 rfl rfl rfl rfl hM ?_
      repeat' first
        | apply cw_seq
        | (refine cw_region_id 0 ?_; (apply ol_val; rfl; first | (apply s_boxN; rfl; intro bk1) | (apply s_box1; rfl; rfl; intro bk1)); (apply ol_as; rfl; rfl); (apply ol_nil))
        | (refine cw_region_id 1 ?_; (apply ol_fa; rfl; rfl; exact fd_25_0; exact qZ); (apply ol_ld; rfl; rfl; rfl; exact qP); (apply ol_nil))
        | (refine cw_region_id 2 ?_; (apply ol_val; rfl; apply stp_cmp; apply s_eql; rfl; rfl; all_goals (intro hc11; try (exfalso; (first | exact hc11 rfl | omega)))); all_goals (apply ol_as; rfl; rfl); all_goals (apply ol_nil))
        | (refine cw_region_id 4 ?_; (apply ol_val; rfl; apply stp_cmp; apply s_eql; rfl; rfl; all_goals (intro hc16; try (exfalso; (first | exact hc16 rfl | omega)))); all_goals (apply ol_as; rfl; rfl); all_goals (apply ol_nil))
        | (refine cw_region_id 12 ?_; (apply ol_as; rfl; rfl); (apply ol_nil))
        | (refine cw_region_id 13 ?_; (apply ol_as; rfl; rfl); (apply ol_nil))
        | (apply cw_cond_true; rfl; exact qA)
        | (apply cw_cond_false; rfl; exact qA)
        | apply cw_skip
        | apply cw_ret
        | apply cw_block
        | apply cw_exit
      refine cw_loopK (σ := Nat) [1] (by (repeat (first | exact Keep.nil | (apply Keep.cons; rfl)))) (fun i => [(6, .string (strOf (40 :: jn ((L.take i).map (txI d))))), (7, .int .i64 i)]) (fun _ => M) (fun _ => [⟨some bk1, [.int .i64 3, .int .i64 nn, .slice Ba xs.length Bc, .slice La m Lc], 25⟩]) (fun i => i ≤ m) (fun i => m - i) 0 (by rw [List.take_zero, List.map_nil, jn_nil, ← strOf_40]; (repeat (first | exact trivial | refine And.intro rfl ?_))) (View.le.refl _) (by exact qK) (Nat.zero_le _) ?_
      intro i hi
      by_cases him : i < m
      · have hil : i < L.length := by omega
        have hci := sL.cells i hil
        have hj := hjt i hil
        have hb := hle (i + 1)
        have hb0 := hle i
        have kw : (txI d (L[i]'hil)).length ≤ 1073741000 → ∀ (w' : World), View.le M (View.of w') → FnC Tryd.prog 33 [.agg (It.enc (L[i]'hil)).toArray] w' (fun v _ => v = .string (strOf (txI d (L[i]'hil)))) := fun h4 w' h =>
          ih h (hL _ (List.getElem_mem hil)) (hnL _ (List.getElem_mem hil)) (hall _ (List.getElem_mem hil)) h4
        clear hL hnL hall hle hjt
        generalize L[i]'hil = y at *
        generalize txI d y = ty at *
        unfold It.enc at hci kw
        generalize hY : jn ((L.take i).map (txI d)) = J at *
        by_cases hi0 : i = 0
        · rw [if_pos hi0] at hj
          have hJ0 : J = [] := by rw [← hY, hi0]; rfl
          have hty : ty.length ≤ 1073741000 := by rw [hj] at hb; omega
          have kw := kw hty
          have hz : 40 :: jn ((L.take (i + 1)).map (txI d)) = (40 :: J) ++ ty := by rw [hj, hJ0]; simp
          have hJl : (40 :: J : List Int).length ≤ 1073741000 := by rw [hJ0]; show 1 ≤ _; omega
          generalize (40 :: J : List Int) = Y at *
          repeat' first
            | apply cw_seq
            | (refine cw_region_id 14 ?_; (apply ol_mv; rfl; rfl); (apply ol_fa; rfl; rfl; exact fd_25_3; exact qZ); (apply ol_ld; rfl; rfl; rfl; (first | exact qP | (apply RdN.view; exact hci))); (apply ol_val; rfl; apply stp_pur; apply s_len; rfl; exact el_23); (apply ol_val; rfl; apply stp_cmp; apply s_lss; rfl; rfl; all_goals (intro hc46; try (exfalso; (first | exact hc46 rfl | omega)))); all_goals (apply ol_nil))
            | (refine cw_region_id 16 ?_; (apply ol_mv; rfl; rfl); (apply ol_val; rfl; apply stp_cmp; apply s_gtr; rfl; rfl; all_goals (intro hc50; try (exfalso; (first | exact hc50 rfl | omega)))); all_goals (apply ol_nil))
            | (refine cw_region_id 18 ?_; (apply ol_mv; rfl; rfl); (apply ol_fa; rfl; rfl; exact fd_25_3; exact qZ); (apply ol_ld; rfl; rfl; rfl; (first | exact qP | (apply RdN.view; exact hci))); (apply ol_mv; rfl; rfl); (apply ol_val; rfl; apply stp_pur; first | (apply s_indexK; rfl; rfl; exact el_23; exact sz_25; (first | rfl | exact sL.at_ (by omega)); omega) | (apply s_indexO; rfl; rfl; exact el_23; exact sz_25; (first | rfl | exact sL.at_ (by omega)); omega)); (apply ol_ldN; rfl; rfl; rfl; exact sz_25; (first | exact qQ | (apply RdN.view; exact hci))); (apply ol_val; rfl; apply s_callv; rfl; exact gf_33; (intro w' hw'; exact kw w' hw'.le)); (apply ol_val; rfl; apply stp_pur; apply s_cat; rfl; rfl; (first | omega)); (apply ol_as; rfl; rfl); (apply ol_nil))
            | (refine cw_region_id 15 ?_; (apply ol_mv; rfl; rfl); (apply ol_val; rfl; apply stp_pur; apply s_add64; rfl; rfl; omega); (apply ol_as; rfl; rfl); (apply ol_nil))
            | (apply cw_cond_true; rfl; exact qA)
            | (apply cw_cond_false; rfl; exact qA)
            | apply cw_skip
            | apply cw_ret
            | apply cw_block
            | apply cw_exit
          refine ⟨i + 1, ⟨?_, View.le.refl _, by exact qK, him, by omega⟩⟩
          rw [hz]
          (repeat (first | exact trivial | refine And.intro rfl ?_))
        · rw [if_neg hi0] at hj
          have hz : 40 :: jn ((L.take (i + 1)).map (txI d)) = (40 :: J) ++ [32] ++ ty := by rw [hj]; simp
          have hty : J.length + 1 + ty.length ≤ 1073741000 := by rw [hj, List.length_append, List.length_cons] at hb; omega
          have kw := kw (by omega)
          have hJl : (40 :: J : List Int).length ≤ 1073741001 := by rw [List.length_cons]; omega
          generalize (40 :: J : List Int) = Y at *
          repeat' first
            | apply cw_seq
            | (refine cw_region_id 14 ?_; (apply ol_mv; rfl; rfl); (apply ol_fa; rfl; rfl; exact fd_25_3; exact qZ); (apply ol_ld; rfl; rfl; rfl; (first | exact qP | (apply RdN.view; exact hci))); (apply ol_val; rfl; apply stp_pur; apply s_len; rfl; exact el_23); (first | (apply ol_val; rfl; apply stp_cmp; apply s_lss; rfl; rfl; all_goals (intro hc46; try (exfalso; (first | exact hc46 rfl | omega)))) | (apply ol_val; rfl; apply stp_cmp; apply s_gtr; rfl; rfl; all_goals (intro hc46; try (exfalso; (first | exact hc46 rfl | omega)))) | (apply ol_val; rfl; apply stp_pur; first | (apply s_add64; rfl; rfl; omega) | (apply s_catR strOf_32; rfl; rfl; (show _ + 1 ≤ _; omega)) | (apply s_cat; rfl; rfl; (rw [List.length_append]; show _ + 1 + _ ≤ _; omega)))); all_goals (apply ol_nil))
            | (refine cw_region_id 16 ?_; (apply ol_mv; rfl; rfl); (first | (apply ol_val; rfl; apply stp_cmp; apply s_lss; rfl; rfl; all_goals (intro hc50; try (exfalso; (first | exact hc50 rfl | omega)))) | (apply ol_val; rfl; apply stp_cmp; apply s_gtr; rfl; rfl; all_goals (intro hc50; try (exfalso; (first | exact hc50 rfl | omega)))) | (apply ol_val; rfl; apply stp_pur; first | (apply s_add64; rfl; rfl; omega) | (apply s_catR strOf_32; rfl; rfl; (show _ + 1 ≤ _; omega)) | (apply s_cat; rfl; rfl; (rw [List.length_append]; show _ + 1 + _ ≤ _; omega)))); all_goals (apply ol_nil))
            | (refine cw_region_id 17 ?_; (apply ol_mv; rfl; rfl); (first | (apply ol_val; rfl; apply stp_cmp; apply s_lss; rfl; rfl; all_goals (intro hc52; try (exfalso; (first | exact hc52 rfl | omega)))) | (apply ol_val; rfl; apply stp_cmp; apply s_gtr; rfl; rfl; all_goals (intro hc52; try (exfalso; (first | exact hc52 rfl | omega)))) | (apply ol_val; rfl; apply stp_pur; first | (apply s_add64; rfl; rfl; omega) | (apply s_catR strOf_32; rfl; rfl; (show _ + 1 ≤ _; omega)) | (apply s_cat; rfl; rfl; (rw [List.length_append]; show _ + 1 + _ ≤ _; omega)))); all_goals (apply ol_as; rfl; rfl); all_goals (apply ol_nil))
            | (refine cw_region_id 18 ?_; (apply ol_mv; rfl; rfl); (apply ol_fa; rfl; rfl; exact fd_25_3; exact qZ); (apply ol_ld; rfl; rfl; rfl; (first | exact qP | (apply RdN.view; exact hci))); (apply ol_mv; rfl; rfl); (apply ol_val; rfl; apply stp_pur; first | (apply s_indexK; rfl; rfl; exact el_23; exact sz_25; (first | rfl | exact sL.at_ (by omega)); omega) | (apply s_indexO; rfl; rfl; exact el_23; exact sz_25; (first | rfl | exact sL.at_ (by omega)); omega)); (apply ol_ldN; rfl; rfl; rfl; exact sz_25; (first | exact qQ | (apply RdN.view; exact hci))); (apply ol_val; rfl; apply s_callv; rfl; exact gf_33; (intro w' hw'; exact kw w' hw'.le)); (first | (apply ol_val; rfl; apply stp_cmp; apply s_lss; rfl; rfl; all_goals (intro hc60; try (exfalso; (first | exact hc60 rfl | omega)))) | (apply ol_val; rfl; apply stp_cmp; apply s_gtr; rfl; rfl; all_goals (intro hc60; try (exfalso; (first | exact hc60 rfl | omega)))) | (apply ol_val; rfl; apply stp_pur; first | (apply s_add64; rfl; rfl; omega) | (apply s_catR strOf_32; rfl; rfl; (show _ + 1 ≤ _; omega)) | (apply s_cat; rfl; rfl; (rw [List.length_append]; show _ + 1 + _ ≤ _; omega)))); all_goals (apply ol_as; rfl; rfl); all_goals (apply ol_nil))
            | (refine cw_region_id 15 ?_; (apply ol_mv; rfl; rfl); (first | (apply ol_val; rfl; apply stp_cmp; apply s_lss; rfl; rfl; all_goals (intro hc48; try (exfalso; (first | exact hc48 rfl | omega)))) | (apply ol_val; rfl; apply stp_cmp; apply s_gtr; rfl; rfl; all_goals (intro hc48; try (exfalso; (first | exact hc48 rfl | omega)))) | (apply ol_val; rfl; apply stp_pur; first | (apply s_add64; rfl; rfl; omega) | (apply s_catR strOf_32; rfl; rfl; (show _ + 1 ≤ _; omega)) | (apply s_cat; rfl; rfl; (rw [List.length_append]; show _ + 1 + _ ≤ _; omega)))); all_goals (apply ol_as; rfl; rfl); all_goals (apply ol_nil))
            | (apply cw_cond_true; rfl; exact qA)
            | (apply cw_cond_false; rfl; exact qA)
            | apply cw_skip
            | apply cw_ret
            | apply cw_block
            | apply cw_exit
          refine ⟨i + 1, ⟨?_, View.le.refl _, by exact qK, him, by omega⟩⟩
          rw [hz]
          (repeat (first | exact trivial | refine And.intro rfl ?_))
      · have htk : L.take i = L := List.take_of_length_le (by omega)
        rw [htk]
        have hJl : (40 :: jn (L.map (txI d))).length ≤ 1073741001 := by rw [List.length_cons]; omega
        rw [← List.cons_append]
        generalize 40 :: jn (L.map (txI d)) = Y at *
        repeat' first
          | apply cw_seq
          | (refine cw_region_id 14 ?_; (apply ol_mv; rfl; rfl); (apply ol_fa; rfl; rfl; exact fd_25_3; exact qZ); (apply ol_ld; rfl; rfl; rfl; exact qP); (apply ol_val; rfl; apply stp_pur; apply s_len; rfl; exact el_23); (first | (apply ol_val; rfl; apply stp_cmp; apply s_lss; rfl; rfl; all_goals (intro hc46; try (exfalso; (first | exact hc46 rfl | omega)))) | (apply ol_val; rfl; apply stp_pur; apply s_catR strOf_41; rfl; rfl; (show _ + 1 ≤ _; omega))); all_goals (apply ol_nil))
          | (refine cw_region_id 19 ?_; (apply ol_mv; rfl; rfl); (first | (apply ol_val; rfl; apply stp_cmp; apply s_lss; rfl; rfl; all_goals (intro hc62; try (exfalso; (first | exact hc62 rfl | omega)))) | (apply ol_val; rfl; apply stp_pur; apply s_catR strOf_41; rfl; rfl; (show _ + 1 ≤ _; omega))); all_goals (apply ol_as; rfl; rfl); all_goals (apply ol_nil))
          | (apply cw_cond_true; rfl; exact qA)
          | (apply cw_cond_false; rfl; exact qA)
          | apply cw_skip
          | apply cw_ret
          | apply cw_block
          | apply cw_exit
        all_goals (refine ends [] (RVal.tmp rfl RVal.nil) Pick.nil ?_; rfl)
    · rw [txI_leaf (.inl h3)] at hn2 ⊢
      rw [okI_leaf (.inl h3)] at hok
      exact rtext_leaf hM hx.head hnr.head (okH_k hok) hn2
end Go.Proofs.YtkkfgeekdaalmaaDoor
