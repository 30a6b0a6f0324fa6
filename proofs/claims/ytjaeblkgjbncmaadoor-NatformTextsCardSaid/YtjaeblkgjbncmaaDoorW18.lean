/-
  Numbers in decimal.
-/
import Derived.Test.YtjaeblkgjbncmaaDoorWC
import Derived.Test.YtjaeblkgjbncmaaDoorFw29
namespace Go.Proofs.YtjaeblkgjbncmaaDoor
set_option maxRecDepth 20000
set_option linter.unusedSimpArgs false
set_option linter.unusedVariables false
open Go Go.Fw Go.RowKit Go.Sort
theorem txt_step {u : Nat} (h : ¬ u < 10) : txt 10 u = txt 10 (u / 10) ++ [chr (u % 10)] := by
  have h1 := txt_add (b := 10) (A := u / 10) (m := 1) (r := u % 10) (by decide) (by omega) (by omega)
  rw [Nat.pow_one, Nat.div_add_mod] at h1
  rw [h1]
  unfold fixT
  rw [lw_cons, lw_zero, Nat.mod_mod]
  rfl
theorem txt_digit {u : Nat} (h : u < 10) : txt 10 u = [48 + (u : Int)] := by
  rcases Nat.eq_zero_or_pos u with h0 | h0
  · subst h0; rfl
  · rw [txt_pos h0]
    have : nd 10 u = 1 := nd_eq (by decide) (by omega) fun _ => by rw [Nat.sub_self, Nat.pow_zero, Nat.div_one]; omega
    unfold dg
    rw [this, lw_cons, lw_zero, Nat.mod_eq_of_lt h]
    unfold chr
    simp [h]
theorem decDigits_txt (u : Nat) : Lib.decDigits u = bytesOf (txt 10 u) := by
  induction u using Nat.strongRecOn with
  | _ u ih =>
    rw [Lib.decDigits]
    split
    · rename_i h
      rw [txt_digit h]
      unfold bytesOf
      simp only [List.map_cons, List.map_nil]
      congr 2
    · rename_i h
      rw [txt_step h, bytesOf_append, ih (u / 10) (Nat.div_lt_self (by omega) (by decide))]
      congr 1
      unfold bytesOf chr
      rw [if_pos (Nat.mod_lt _ (by decide))]
      simp only [List.map_cons, List.map_nil]
      congr 2
theorem nDigits_nd {u : Nat} (h : 1 ≤ u) : Lib.nDigits u = nd 10 u := by
  induction u using Nat.strongRecOn with
  | _ u ih =>
    rw [Lib.nDigits]
    split
    · rename_i h1
      exact (nd_eq (by decide) (by omega) fun _ => by rw [Nat.sub_self, Nat.pow_zero, Nat.div_one]; omega).symm
    · rename_i h1
      rw [ih (u / 10) (Nat.div_lt_self (by omega) (by decide)) (by omega), ← nd_pos (by decide) (by omega)]
theorem small_spec (w : World) {i : Nat} (h : i < 100) : FnC Tryd.prog 49 [.int .i64 i] w (fun v _ => v = .string (strOf (txt 10 i))) :=
  fnc_of_same (Any.internal_strconv_small Tryd.lays283 i h w) (by rw [decDigits_txt]; rfl)
theorem numDigits_spec {M : View} {w : World} (hM : View.le M (View.of w)) (hL : LT M) {u : Nat} (h : 1 ≤ u) (hu : u < 18446744073709551616) : FnC Tryd.prog 50 [.int .u64 u] w (fun v _ => v = .int .i64 (nd 10 u : Nat)) :=
  fnc_of_same (Any.internal_strconv_numDigits Tryd.laysM284 u h hu w (hL.t w hM)) (by rw [nDigits_nd h])
theorem fixT_at {n u j : Nat} (h : j < n) : (fixT 10 n u)[j]? = some (chr (u / 10 ^ (n - 1 - j) % 10)) := by
  unfold fixT
  rw [List.getElem?_map, List.getElem?_reverse (by rw [lw_length]; exact h), lw_length]
  have h2 : n - 1 - j < (lw 10 n u).length := by rw [lw_length]; omega
  rw [List.getElem?_eq_getElem h2, lw_get]
  rfl
abbrev encB : UInt8 → Value := fun b => Value.int .u8 (b.toNat : Int)
theorem fb_cells {n u v : Nat} {dk : Array UInt8} (hn : n ≤ 24) (h : Lib.FmtInv n u 0 v dk) : (putCells encB 0 dk (flat (eK .u8) (List.replicate 24 0)).toArray).toList = flat (eK .u8) (fixT 10 n u ++ List.replicate (24 - n) 0) := by
  refine List.ext_getElem? fun j => ?_
  unfold putCells
  rw [Array.getElem?_toList, Array.getElem?_mapIdx, flatK_map, flatK_map]
  simp only [List.getElem?_toArray, List.getElem?_map, Nat.zero_le, true_and, Nat.zero_add, Nat.sub_zero, h.size]
  by_cases hj : j < n
  · have h1 : (List.replicate 24 (0 : Int))[j]? = some 0 := by rw [List.getElem?_replicate, if_pos (by omega)]
    rw [h1, List.getElem?_append_left (by rw [fixT_length]; exact hj), fixT_at hj]
    simp only [Option.map_some, if_pos hj]
    rw [h.done j (Nat.zero_le _) hj]
    have hd : u / 10 ^ (n - 1 - j) % 10 < 10 := Nat.mod_lt _ (by decide)
    unfold Lib.dg chr
    generalize u / 10 ^ (n - 1 - j) % 10 = d at *
    rw [if_pos hd]
    refine congrArg some ?_
    show Value.int .u8 (((UInt8.ofNat (48 + d)).toNat : Nat) : Int) = _
    rw [UInt8.toNat_ofNat_of_lt' (show 48 + d < 256 by omega)]
    exact congrArg (Value.int .u8) (by omega)
  · rw [List.getElem?_append_right (by rw [fixT_length]; omega), fixT_length, List.getElem?_replicate, List.getElem?_replicate]
    by_cases hj2 : j < 24
    · rw [if_pos hj2, if_pos (by omega)]
      simp [hj]
    · rw [if_neg hj2, if_neg (by omega)]
      rfl
attribute [local irreducible] Calls flat
theorem fb10_spec {w : World} {b n u : Nat} (hok : OB.ok ⟨some b, flat (eK .u8) (List.replicate 24 0), 83⟩ w) (hn : n ≤ 24) (hu : u < 10 ^ n) (hu64 : u < 18446744073709551616) :
    Ret Tryd.prog 51 [.slice (some ⟨b, 0, none⟩) n 24, .int .u64 u] w (fun v m new => ∃ cs', m = [⟨some b, cs', 83⟩] ∧ cs' = flat (eK .u8) (fixT 10 n u ++ List.replicate (24 - n) 0) ∧ v = .tuple #[]) := by
  have hs : (Array.replicate n (0 : UInt8)).size = n := Array.size_replicate
  have hH : Holds encB w b 0 (Array.replicate n (0 : UInt8)) := by
    intro j hj
    rw [hs] at hj
    have hl : j < (flat (eK .u8) (List.replicate 24 0)).length := by rw [flatK_length, List.length_replicate]; omega
    rw [Nat.zero_add]
    refine ⟨?_, not_frozen hok hl⟩
    refine cell_of_ok hok ?_
    rw [flatK_map, List.getElem?_map, List.getElem?_replicate, if_pos (by omega), getElem!_pos _ j (by rw [hs]; exact hj), Array.getElem_replicate]
    rfl
  have h := Any.internal_strconv_formatBase10 Tryd.lays285 b 0 24 u (Array.replicate n (0 : UInt8)) w hH (by rw [hs]; exact hu) hu64 (by rw [hs]; omega)
  rw [hs] at h
  refine Ret.mono (ret_of_putRow (enc := encB) (Q := fun dk => ∃ v', Lib.FmtInv n u 0 v' dk) (res := .tuple #[]) hok (Calls.mono h fun e w' ⟨h1, k, v', dk, h2, h3⟩ => ⟨h1, dk, w', by rw [h2]; rfl, by rw [h2]; rfl, by rw [h2]; rfl, by rw [h2]; rfl, rfl, v', h3⟩)) ?_
  rintro v m new ⟨cs', rfl, rfl, rfl, dk, ⟨v', h3⟩, rfl⟩
  exact ⟨_, rfl, fb_cells hn h3, rfl⟩
end Go.Proofs.YtjaeblkgjbncmaaDoor
