/-
  Lengths of rows of nodes; elements of rows.
-/
import Derived.Test.YtkmpiamfgmdihaaDoorW8
namespace Go.Proofs.YtkmpiamfgmdihaaDoor
set_option maxRecDepth 20000
set_option linter.unusedSimpArgs false
set_option linter.unusedVariables false
open Go Go.Fw
theorem nod_len (d : Nat) : ∀ (f a b : Nat), (nod d f a b).length ≤ f
  | 0, _, _ => by simp [nod]
  | f + 1, a, b => by
    by_cases h : a < b
    · rw [nod_succ h, List.length_cons]
      have := nod_len d f (a + sz d (lvl d a b)) b
      omega
    · rw [nod_end h]; simp
theorem cov_len (d : Nat) : ∀ (f : Nat) (s : List Bool) (n : Nat), (cov d f s n).length ≤ f
  | 0, _, _ => by simp [cov]
  | f + 1, s, n => by
    unfold cov
    split
    · simp
    · split
      · simp
      · rename_i l i _
        have := cov_len d f (markN s d l i) (n - sz d l)
        rw [List.length_cons]
        exact Nat.succ_le_succ this
theorem getN_node {L : List (Nat × Nat)} {sp : List Value} {k off : Nat} {x : Nat × Nat} (hk : k < L.length) (hx : L[k] = x) (e : off = k * 2) : GetN ((flat C2.enc (L.map toC2) ++ sp)[·]?) off 2 [.int .i64 (x.1 : Nat), .int .i64 (x.2 : Nat)] := by
  have := getN_flat C2.enc_length (xs := L.map toC2) (sp := sp) (i := k) (by rw [List.length_map]; exact hk)
  rw [List.getElem_map, hx] at this
  rw [e, ← Nat.zero_add (k * 2)]
  exact this
theorem drop_cons {L : List (Nat × Nat)} {k : Nat} (hk : k < L.length) : L.drop k = L[k] :: L.drop (k + 1) := List.drop_eq_getElem_cons hk
end Go.Proofs.YtkmpiamfgmdihaaDoor
