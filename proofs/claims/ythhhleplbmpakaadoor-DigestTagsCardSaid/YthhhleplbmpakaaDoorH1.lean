/-
  Texts of digests: plain facts.
-/
import Derived.Test.YthhhleplbmpakaaDoorW13
import Derived.Test.YthhhleplbmpakaaDoorFw18
namespace Go.Proofs.YthhhleplbmpakaaDoor
set_option maxRecDepth 20000
set_option linter.unusedSimpArgs false
set_option linter.unusedVariables false
open Go Go.Fw
/-- The value of a digit; -1 if it is none. -/
def dgv (c : Int) : Int := if 48 ≤ c ∧ c ≤ 57 then c - 48 else if 97 ≤ c ∧ c ≤ 102 then c - 97 + 10 else -1
theorem dgv_range (c : Int) : dgv c = -1 ∨ 0 ≤ dgv c ∧ dgv c ≤ 15 := by unfold dgv; split; omega; split <;> omega
theorem dgv_DG_fin : ∀ i : Fin 16, dgv (DG.getD i.val 0) = i.val := by decide +kernel
theorem dgv_DG {i : Int} (h : 0 ≤ i ∧ i < 16) : dgv (DG.getD i.toNat 0) = i := by
  have := dgv_DG_fin ⟨i.toNat, by omega⟩
  simp only at this
  omega
theorem DG_dgv_fin : ∀ c : Fin 256, 0 ≤ dgv (c.val : Int) → DG.getD (dgv (c.val : Int)).toNat 0 = c.val := by decide +kernel
theorem DG_dgv {c : Int} (h : 0 ≤ c ∧ c ≤ 255) (hd : 0 ≤ dgv c) : DG.getD (dgv c).toNat 0 = c := by
  obtain ⟨m, rfl⟩ := Int.eq_ofNat_of_zero_le h.1
  exact DG_dgv_fin ⟨m, by omega⟩ hd
theorem idx_fin : ∀ c : Fin 256, Lib.indexByte digitsB.data.toList c.val.toUInt8 = dgv (c.val : Int) := by decide +kernel
theorem idx_dgv {c : Int} (h : 0 ≤ c ∧ c ≤ 255) : Lib.indexByte digitsB.data.toList c.toNat.toUInt8 = dgv c := by
  obtain ⟨m, rfl⟩ := Int.eq_ofNat_of_zero_le h.1
  exact idx_fin ⟨m, by omega⟩
theorem or16_fin : ∀ x : Fin 16, ∀ d : Fin 16, Go.bits .or .u8 ((16 * x.val : Nat) : Int) (d.val : Int) = ((16 * x.val + d.val : Nat) : Int) := by decide +kernel
/-- Shifting a byte by 4 and putting a digit in. -/
theorem or16 {x d : Int} (h : 0 ≤ d ∧ d ≤ 15) : Go.bits .or .u8 (IntKind.u8.wrap (x * 2 ^ 4)) d = IntKind.u8.wrap (IntKind.u8.wrap (x * 16) + d) := by
  show Go.bits .or .u8 (IntKind.u8.wrap (x * 16)) d = _
  rw [wrapU8, wrapU8]
  obtain ⟨q, hq⟩ := Int.eq_ofNat_of_zero_le (show 0 ≤ x * 16 % 256 / 16 by omega)
  obtain ⟨m, rfl⟩ := Int.eq_ofNat_of_zero_le h.1
  have hq' : q < 16 := by omega
  have e : x * 16 % 256 = ((16 * q : Nat) : Int) := by omega
  have hh := or16_fin ⟨q, hq'⟩ ⟨m, by omega⟩
  simp only at hh
  rw [e, hh]
  omega

/-- The first k digits, read into 32 bytes. -/
def hx (s : List Int) : Nat → List Int
  | 0 => List.replicate 32 0
  | k + 1 => (hx s k).set (k / 2) (IntKind.u8.wrap (IntKind.u8.wrap ((hx s k).getD (k / 2) 0 * 16) + dgv (s.getD k 0)))
theorem hx_succ (s : List Int) (k : Nat) : hx s (k + 1) = (hx s k).set (k / 2) (IntKind.u8.wrap (IntKind.u8.wrap ((hx s k).getD (k / 2) 0 * 16) + dgv (s.getD k 0))) := rfl
theorem hx_length (s : List Int) : ∀ k, (hx s k).length = 32
  | 0 => by simp [hx]
  | k + 1 => by simp [hx, hx_length s k]
def okD (s : List Int) (k : Nat) : Prop := ∀ j, j < k → 0 ≤ dgv (s.getD j 0)
def pr (s : List Int) (j : Nat) : List Int := (List.range j).map fun i => 16 * dgv (s.getD (2 * i) 0) + dgv (s.getD (2 * i + 1) 0)
theorem pr_length (s : List Int) (j : Nat) : (pr s j).length = j := by simp [pr]
theorem pr_succ (s : List Int) (j : Nat) : pr s (j + 1) = pr s j ++ [16 * dgv (s.getD (2 * j) 0) + dgv (s.getD (2 * j + 1) 0)] := by simp [pr, List.range_succ]
theorem getD_fill {A : List Int} {m i : Nat} (h : A.length = i) (v : Int) : (A ++ List.replicate m v).getD i 0 = if 0 < m then v else 0 := by
  subst h
  simp [List.getD, List.getElem?_append_right (Nat.le_refl _), List.getElem?_replicate]
  split <;> rfl
theorem hx_two {s : List Int} : ∀ {j : Nat}, j ≤ 32 → okD s (2 * j) → hx s (2 * j) = pr s j ++ List.replicate (32 - j) 0
  | 0, _, _ => rfl
  | j + 1, hj, ho => by
    have ih := hx_two (s := s) (j := j) (by omega) (fun i hi => ho i (by omega))
    have o1 := ho (2 * j) (by omega)
    have o2 := ho (2 * j + 1) (by omega)
    have r1 := dgv_range (s.getD (2 * j) 0)
    have r2 := dgv_range (s.getD (2 * j + 1) 0)
    have hl := pr_length s j
    show hx s (2 * j + 1 + 1) = _
    have e1 : hx s (2 * j + 1) = pr s j ++ [dgv (s.getD (2 * j) 0)] ++ List.replicate (32 - j - 1) 0 := by
      show (hx s (2 * j)).set (2 * j / 2) (IntKind.u8.wrap (IntKind.u8.wrap ((hx s (2 * j)).getD (2 * j / 2) 0 * 16) + dgv (s.getD (2 * j) 0))) = _
      rw [ih, show 2 * j / 2 = j by omega, getD_fill hl, if_pos (by omega), set_fill hl (by omega)]
      congr 3
      rw [wrapU8, wrapU8]; omega
    show (hx s (2 * j + 1)).set ((2 * j + 1) / 2) (IntKind.u8.wrap (IntKind.u8.wrap ((hx s (2 * j + 1)).getD ((2 * j + 1) / 2) 0 * 16) + dgv (s.getD (2 * j + 1) 0))) = _
    rw [e1, show (2 * j + 1) / 2 = j by omega, pr_succ]
    have e2 : (pr s j ++ [dgv (s.getD (2 * j) 0)] ++ List.replicate (32 - j - 1) 0).getD j 0 = dgv (s.getD (2 * j) 0) := by
      rw [List.append_assoc]
      simp [List.getD, List.getElem?_append_right (show (pr s j).length ≤ j by omega), hl]
    rw [e2, List.append_assoc, List.set_append_right _ _ (by omega), hl, Nat.sub_self]
    simp only [List.singleton_append, List.set_cons_zero, List.append_assoc]
    congr 2
    rw [wrapU8, wrapU8]; omega
theorem hx_all {s : List Int} (ho : okD s 64) : hx s 64 = pr s 32 := by
  have := hx_two (s := s) (j := 32) (by decide) ho
  simpa using this
theorem pr_b {s : List Int} {j : Nat} (ho : okD s (2 * j)) : isB (pr s j) := .of fun x hx => by
  obtain ⟨i, hi, rfl⟩ := List.mem_map.1 hx
  have hi := List.mem_range.1 hi
  have o1 := ho (2 * i) (by omega)
  have o2 := ho (2 * i + 1) (by omega)
  have r1 := dgv_range (s.getD (2 * i) 0)
  have r2 := dgv_range (s.getD (2 * i + 1) 0)
  omega
theorem pr_getD {s : List Int} {i j : Nat} (h : i < j) : (pr s j).getD i 0 = 16 * dgv (s.getD (2 * i) 0) + dgv (s.getD (2 * i + 1) 0) := by
  simp [pr, List.getD, List.getElem?_map, List.getElem?_range h]

/-- The text of what was read is the text. -/
theorem hexN_pr {s : List Int} (hb : isB s) (ho : okD s 64) (hl : s.length = 64) : ∀ m, m ≤ 32 → hexN (pr s 32) m = s.take (2 * m)
  | 0, _ => rfl
  | m + 1, hm => by
    have ih := hexN_pr hb ho hl m (by omega)
    have o1 := ho (2 * m) (by omega)
    have o2 := ho (2 * m + 1) (by omega)
    have r1 := dgv_range (s.getD (2 * m) 0)
    have r2 := dgv_range (s.getD (2 * m + 1) 0)
    simp only [hexN, ih, pr_getD (show m < 32 by omega)]
    have e1 : (16 * dgv (s.getD (2 * m) 0) + dgv (s.getD (2 * m + 1) 0)) / 16 = dgv (s.getD (2 * m) 0) := by omega
    have e2 : (16 * dgv (s.getD (2 * m) 0) + dgv (s.getD (2 * m + 1) 0)) % 16 = dgv (s.getD (2 * m + 1) 0) := by omega
    rw [e1, e2, DG_dgv (hb _) o1, DG_dgv (hb _) o2, show 2 * (m + 1) = 2 * m + 1 + 1 by omega, List.take_succ_eq_append_getElem (by omega), List.take_succ_eq_append_getElem (by omega)]
    simp [List.getD, List.getElem?_eq_getElem (show 2 * m < s.length by omega), List.getElem?_eq_getElem (show 2 * m + 1 < s.length by omega)]
theorem hexN_get {a : List Int} (hb : isB a) : ∀ m i, i < m → (hexN a m).getD (2 * i) 0 = DG.getD (a.getD i 0 / 16).toNat 0 ∧ (hexN a m).getD (2 * i + 1) 0 = DG.getD (a.getD i 0 % 16).toNat 0
  | 0, i, h => by omega
  | m + 1, i, h => by
    have hl := hexN_length a m
    by_cases e : i = m
    · subst e
      simp only [hexN, List.append_assoc]
      constructor
      · simp [List.getD, List.getElem?_append_right (show (hexN a i).length ≤ 2 * i by omega), hl]
      · simp [List.getD, List.getElem?_append_right (show (hexN a i).length ≤ 2 * i + 1 by omega), hl]
    · have ih := hexN_get hb m i (by omega)
      simp only [hexN, List.append_assoc]
      constructor
      · rw [← ih.1]; simp [List.getD, List.getElem?_append_left (show 2 * i < (hexN a m).length by omega)]
      · rw [← ih.2]; simp [List.getD, List.getElem?_append_left (show 2 * i + 1 < (hexN a m).length by omega)]
theorem okD_hexN {a : List Int} (hb : isB a) : okD (hexN a 32) 64 := by
  intro j hj
  have hg := hb (j / 2)
  have := hexN_get hb 32 (j / 2) (by omega)
  by_cases e : j % 2 = 0
  · rw [show j = 2 * (j / 2) by omega, this.1, dgv_DG (by omega)]; omega
  · rw [show j = 2 * (j / 2) + 1 by omega, this.2, dgv_DG (by omega)]; omega
theorem getD_lt {l : List Int} {i : Nat} (h : i < l.length) : l.getD i 0 = l[i] := by simp [List.getD, List.getElem?_eq_getElem h]
theorem ext_getD {l k : List Int} (h : l.length = k.length) (e : ∀ i, i < l.length → l.getD i 0 = k.getD i 0) : l = k := by
  apply List.ext_getElem h
  intro i h1 h2
  rw [← getD_lt h1, ← getD_lt h2]
  exact e i h1
theorem pr_hexN {a : List Int} (hb : isB a) (hl : a.length = 32) : pr (hexN a 32) 32 = a := by
  refine ext_getD (by rw [pr_length, hl]) fun i h1 => ?_
  have hi : i < 32 := by rwa [pr_length] at h1
  have hg := hb i
  have hh := hexN_get hb 32 i hi
  rw [pr_getD hi, hh.1, hh.2, dgv_DG (by omega), dgv_DG (by omega)]
  omega
theorem cmp_step {h g : List Int} {i : Nat} (h1 : i < h.length) (h2 : i < g.length) : cmpI (h.drop i) (g.drop i) = if h.getD i 0 < g.getD i 0 then -1 else if g.getD i 0 < h.getD i 0 then 1 else cmpI (h.drop (i + 1)) (g.drop (i + 1)) := by
  rw [List.drop_eq_getElem_cons h1, List.drop_eq_getElem_cons h2]
  simp only [cmpI, List.getD, List.getElem?_eq_getElem h1, List.getElem?_eq_getElem h2, Option.getD_some]
end Go.Proofs.YthhhleplbmpakaaDoor
