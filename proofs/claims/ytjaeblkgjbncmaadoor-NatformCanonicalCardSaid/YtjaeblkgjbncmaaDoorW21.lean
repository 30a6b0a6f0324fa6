/-
  Strings joined; the chunks of a decimal text.
-/
import Derived.Test.YtjaeblkgjbncmaaDoorW20
namespace Go.Proofs.YtjaeblkgjbncmaaDoor
set_option maxRecDepth 20000
set_option linter.unusedSimpArgs false
set_option linter.unusedVariables false
open Go Go.Fw Go.RowKit
theorem joinE : ∀ (l : List (List UInt8)), Lib.join l [] = l.flatten
  | [] => Lib.join_nil []
  | x :: r => by rw [Lib.join_cons, Lib.joinTail]; simp
theorem flatten_bytes : ∀ (P : List (List Int)), ((P.map strOf).map (·.data.toList)).flatten = bytesOf P.flatten
  | [] => rfl
  | x :: P => by
    rw [List.map_cons, List.map_cons, List.flatten_cons, flatten_bytes P, List.flatten_cons, bytesOf_append]
    rfl
theorem join_spec {w : World} {P : List (List Int)} {n b c : Nat} {sp : List Value} (hn : P.length = n) (hok : OB.ok ⟨some b, flat eS P ++ sp, 9⟩ w) (hnc : n ≤ c) (hN : n ≤ 1000) (hl : P.flatten.length ≤ 100000) :
    FnC Tryd.prog 31 [.slice (some ⟨b, 0, none⟩) n c, .string (⟨#[]⟩ : ByteArray)] w (fun v _ => v = .string (strOf P.flatten)) := by
  subst hn
  have hlen : (P.map strOf).length = P.length := List.length_map ..
  have hj : Lib.join ((P.map strOf).map (·.data.toList)) (⟨#[]⟩ : ByteArray).data.toList = bytesOf P.flatten := by
    rw [show (⟨#[]⟩ : ByteArray).data.toList = [] from rfl, joinE, flatten_bytes]
  have hb : b < w.heap.size := by
    obtain ⟨fz, _, h⟩ := OB.ok_some hok
    exact lt_of_heap h
  have h := Any.strings_Join Tryd.lays156 Tryd.Builder_Extra_156 b 0 c (P.map strOf) (⟨#[]⟩ : ByteArray) w (fun j x hx => by
    rw [Nat.zero_add]
    refine cell_of_ok hok ?_
    have hjl : j < P.length := by
      have := (List.getElem?_eq_some_iff.1 hx).1
      rwa [hlen] at this
    rw [List.getElem?_append_left (by rw [flatS_length]; exact hjl), flatS, List.getElem?_map]
    rw [List.getElem?_map] at hx
    rw [List.getElem?_eq_getElem hjl] at hx ⊢
    simp only [Option.map_some, Option.some.injEq] at hx ⊢
    rw [← hx]) hb (by rw [hlen]; omega) (by rw [hlen]; exact hnc) (by rw [hj, bytesOf_length]; omega)
  rw [hj, hlen] at h
  exact fnc_of_below h rfl
/-- A billion. -/
abbrev BI : Nat := 1000000000
theorem BI_10 : BI = 10 ^ 9 := by decide
/-- The chunks of a number's text, the lowest first. -/
def chunks (Q : Nat) : List (List Int) := if h : Q = 0 then [] else (if Q / BI = 0 then txt 10 (Q % BI) else fixT 10 9 (Q % BI)) :: chunks (Q / BI)
termination_by Q
decreasing_by exact Nat.div_lt_self (by omega) (by decide)
theorem chunks_zero : chunks 0 = [] := by unfold chunks; rfl
theorem chunks_pos {Q : Nat} (h : 0 < Q) : chunks Q = (if Q / BI = 0 then txt 10 (Q % BI) else fixT 10 9 (Q % BI)) :: chunks (Q / BI) := by
  rw [chunks, dif_neg (by omega)]
theorem chunks_text {Q : Nat} (h : 0 < Q) : (chunks Q).reverse.flatten = txt 10 Q := by
  induction Q using Nat.strongRecOn with
  | _ Q ih =>
    rw [chunks_pos h]
    have hdm := Nat.div_add_mod Q BI
    split
    · rename_i h0
      rw [h0, chunks_zero]
      have hlt : Q < BI := (Nat.div_eq_zero_iff_lt (by decide)).1 h0
      rw [Nat.mod_eq_of_lt hlt]
      simp
    · rename_i h0
      have hr : Q % BI < 10 ^ 9 := by rw [← BI_10]; exact Nat.mod_lt _ (by decide)
      rw [List.reverse_cons, List.flatten_append, ih (Q / BI) (Nat.div_lt_self (by omega) (by decide)) (Nat.pos_of_ne_zero h0)]
      have := txt_add (b := 10) (A := Q / BI) (m := 9) (r := Q % BI) (by decide) (Nat.pos_of_ne_zero h0) hr
      rw [← BI_10, hdm] at this
      rw [this]
      simp
theorem chunks_length {k : Nat} : ∀ {Q : Nat}, Q < BI ^ k → (chunks Q).length ≤ k := by
  induction k with
  | zero => intro Q h; obtain rfl : Q = 0 := by simpa using h
            rw [chunks_zero]; exact Nat.le_refl _
  | succ k ih =>
    intro Q h
    rcases Nat.eq_zero_or_pos Q with h0 | h0
    · subst h0; rw [chunks_zero]; exact Nat.zero_le _
    · rw [chunks_pos h0, List.length_cons]
      have := ih (Q := Q / BI) ((Nat.div_lt_iff_lt_mul (by decide)).2 (by rwa [Nat.pow_succ] at h))
      omega
end Go.Proofs.YtjaeblkgjbncmaaDoor
