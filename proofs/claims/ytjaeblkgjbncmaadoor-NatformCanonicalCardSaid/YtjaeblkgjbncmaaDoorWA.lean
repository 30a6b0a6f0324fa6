/-
  Some texts joined.
-/
import Derived.Test.YtjaeblkgjbncmaaDoorTy
import Derived.Test.YtjaeblkgjbncmaaDoorFw26
import Derived.Test.YtjaeblkgjbncmaaDoorFw27
import Derived.Test.YtjaeblkgjbncmaaDoorFw19
/-
  Numbers and their digits, in plain words: little-endian digits of a base, the count of the digits, the texts.
-/
namespace Go.Proofs.YtjaeblkgjbncmaaDoor
set_option maxRecDepth 20000
set_option linter.unusedSimpArgs false
set_option linter.unusedVariables false

/-- The first k digits of n, the lowest one first. -/
def lw (b k n : Nat) : List Nat := (List.range k).map fun i => n / b ^ i % b

theorem lw_length (b k n : Nat) : (lw b k n).length = k := by simp [lw]
theorem lw_get {b k n i : Nat} (h : i < (lw b k n).length) : (lw b k n)[i] = n / b ^ i % b := by simp [lw]
theorem lw_zero (b n : Nat) : lw b 0 n = [] := rfl
theorem lw_succ (b k n : Nat) : lw b (k + 1) n = lw b k n ++ [n / b ^ k % b] := by simp [lw, List.range_succ]
theorem lw_add (b j k n : Nat) : lw b (j + k) n = lw b j n ++ lw b k (n / b ^ j) := by
  induction k with
  | zero => simp [lw_zero]
  | succ k ih =>
    rw [← Nat.add_assoc, lw_succ, lw_succ, ih, List.append_assoc, Nat.div_div_eq_div_mul, Nat.pow_add]
theorem lw_cons (b k n : Nat) : lw b (k + 1) n = n % b :: lw b k (n / b) := by
  rw [Nat.add_comm, lw_add, Nat.pow_one]
  simp [lw, List.range_succ]
theorem lw_mod {b j k : Nat} (n : Nat) (h : k ≤ j) : lw b k (n % b ^ j) = lw b k n := by
  unfold lw
  refine List.map_congr_left fun i hi => ?_
  have hi : i < k := List.mem_range.1 hi
  obtain ⟨m, rfl⟩ : ∃ m, j = i + (m + 1) := ⟨j - i - 1, by omega⟩
  rw [Nat.pow_add, Nat.mod_mul_right_div_self, Nat.mod_mod_of_dvd _ (by rw [Nat.pow_succ]; exact Nat.dvd_mul_left _ _)]
theorem lw_lt {b : Nat} (hb : 0 < b) (k n : Nat) : ∀ x ∈ lw b k n, x < b := by
  intro x hx
  obtain ⟨i, _, rfl⟩ := List.mem_map.1 hx
  exact Nat.mod_lt _ hb
theorem lw_take {b j k : Nat} (n : Nat) (h : j ≤ k) : (lw b k n).take j = lw b j n := by
  obtain ⟨m, rfl⟩ : ∃ m, k = j + m := ⟨k - j, by omega⟩
  rw [lw_add, List.take_left' (lw_length _ _ _)]

/-- The number of some digits, the lowest one first. -/
def vl (b : Nat) : List Nat → Nat
  | [] => 0
  | x :: r => x + b * vl b r
theorem vl_append (b : Nat) (l r : List Nat) : vl b (l ++ r) = vl b l + b ^ l.length * vl b r := by
  induction l with
  | nil => simp [vl]
  | cons x l ih => simp only [List.cons_append, vl, ih, List.length_cons]; rw [Nat.pow_succ, Nat.mul_add, Nat.add_assoc, Nat.mul_comm (b ^ l.length) b, Nat.mul_assoc]
theorem vl_lw (b k n : Nat) : vl b (lw b k n) = n % b ^ k := by
  induction k generalizing n with
  | zero => simp [lw_zero, vl, Nat.mod_one]
  | succ k ih => rw [lw_cons, vl, ih, Nat.pow_succ', Nat.mod_mul]
theorem lw_vl {b : Nat} : ∀ {l : List Nat}, (∀ x ∈ l, x < b) → lw b l.length (vl b l) = l
  | [], _ => rfl
  | x :: r, h => by
    have hx := h x (by simp)
    have hb : 0 < b := by omega
    rw [List.length_cons, lw_cons, vl, Nat.add_mul_mod_self_left, Nat.mod_eq_of_lt hx, Nat.add_mul_div_left _ _ hb, Nat.div_eq_of_lt hx, Nat.zero_add, lw_vl fun y hy => h y (by simp [hy])]
theorem vl_lt {b : Nat} : ∀ {l : List Nat}, (∀ x ∈ l, x < b) → vl b l < b ^ l.length
  | [], _ => by simp [vl]
  | x :: r, h => by
    have hx := h x (by simp)
    have := vl_lt (l := r) fun y hy => h y (by simp [hy])
    rw [List.length_cons, vl, Nat.pow_succ']
    have h2 : b * (vl b r + 1) ≤ b * b ^ r.length := Nat.mul_le_mul_left _ this
    rw [Nat.mul_add, Nat.mul_one] at h2
    omega

/-- How many digits a number has: none if it is 0. -/
def nd (b n : Nat) : Nat := if h : n = 0 ∨ b < 2 then 0 else nd b (n / b) + 1
termination_by n
decreasing_by exact Nat.div_lt_self (by omega) (by omega)
theorem nd_zero (b : Nat) : nd b 0 = 0 := by unfold nd; simp
theorem nd_pos {b n : Nat} (hb : 2 ≤ b) (hn : 0 < n) : nd b n = nd b (n / b) + 1 := by
  rw [nd, dif_neg (by omega)]
theorem nd_lt {b : Nat} (hb : 2 ≤ b) (n : Nat) : n < b ^ nd b n := by
  induction n using Nat.strongRecOn with
  | _ n ih =>
    by_cases h : n = 0
    · subst h; rw [nd_zero]; exact Nat.one_pos
    · rw [nd_pos hb (by omega), Nat.pow_succ]
      have := ih (n / b) (Nat.div_lt_self (by omega) (by omega))
      exact (Nat.div_lt_iff_lt_mul (by omega)).1 this
theorem nd_le {b : Nat} (hb : 2 ≤ b) {n k : Nat} (h : n < b ^ k) : nd b n ≤ k := by
  induction k generalizing n with
  | zero => obtain rfl : n = 0 := by simp at h; exact h
            rw [nd_zero]; exact Nat.zero_le _
  | succ k ih =>
    by_cases h0 : n = 0
    · subst h0; rw [nd_zero]; omega
    · rw [nd_pos hb (by omega)]
      have : n / b < b ^ k := (Nat.div_lt_iff_lt_mul (by omega)).2 (by rwa [← Nat.pow_succ])
      have := ih this
      omega
theorem nd_le_iff {b : Nat} (hb : 2 ≤ b) {n k : Nat} : nd b n ≤ k ↔ n < b ^ k :=
  ⟨fun h => Nat.lt_of_lt_of_le (nd_lt hb n) (Nat.pow_le_pow_right (by omega) h), nd_le hb⟩
theorem nd_mono {b : Nat} (hb : 2 ≤ b) {m n : Nat} (h : m ≤ n) : nd b m ≤ nd b n := nd_le hb (Nat.lt_of_le_of_lt h (nd_lt hb n))
theorem nd_zero_iff {b : Nat} (hb : 2 ≤ b) {n : Nat} : nd b n = 0 ↔ n = 0 := by
  constructor
  · intro h
    have := nd_lt hb n
    rw [h] at this
    simp at this
    exact this
  · rintro rfl; exact nd_zero b
/-- The number has so many digits exactly if it is below the power, and the highest digit is none or not 0. -/
theorem nd_eq {b : Nat} (hb : 2 ≤ b) {n k : Nat} (h : n < b ^ k) (ht : 0 < k → n / b ^ (k - 1) % b ≠ 0) : nd b n = k := by
  refine Nat.le_antisymm (nd_le hb h) ?_
  cases k with
  | zero => exact Nat.zero_le _
  | succ k =>
    refine Nat.succ_le_of_lt (Nat.not_le.1 fun hle => ?_)
    have hlt := (nd_le_iff hb).1 hle
    have := ht (by omega)
    simp only [Nat.add_sub_cancel] at this
    rw [Nat.div_eq_of_lt hlt] at this
    simp at this
theorem nd_top {b : Nat} (hb : 2 ≤ b) {n : Nat} (hn : 0 < n) : n / b ^ (nd b n - 1) % b ≠ 0 := by
  have h1 := nd_lt hb n
  have h2 : nd b n ≠ 0 := fun h => by rw [nd_zero_iff hb] at h; omega
  obtain ⟨k, hk⟩ : ∃ k, nd b n = k + 1 := ⟨nd b n - 1, by omega⟩
  rw [hk] at h1 ⊢
  simp only [Nat.add_sub_cancel]
  have h3 : ¬ n < b ^ k := fun h => by have := nd_le hb h; omega
  have h4 : n / b ^ k < b := (Nat.div_lt_iff_lt_mul (Nat.pow_pos (by omega))).2 (by rwa [Nat.pow_succ'] at h1)
  rw [Nat.mod_eq_of_lt h4]
  have := Nat.div_pos (Nat.not_lt.1 h3) (Nat.pow_pos (n := k) (show 0 < b by omega))
  omega
theorem nd_mul_add {b : Nat} (hb : 2 ≤ b) {n d : Nat} (hd : d < b) (h : 0 < n * b + d) : nd b (n * b + d) = nd b n + 1 := by
  rw [nd_pos hb h, Nat.mul_comm, Nat.mul_add_div (by omega), Nat.div_eq_of_lt hd]
  rfl

/-- Digits in chunks. -/
theorem lw_pow (b m k n : Nat) (hb : 0 < b) : (lw (b ^ m) k n).flatMap (lw b m) = lw b (m * k) n := by
  induction k generalizing n with
  | zero => simp [lw_zero]
  | succ k ih => rw [lw_cons, List.flatMap_cons, ih, Nat.mul_succ, Nat.add_comm, lw_add, lw_mod n (Nat.le_refl _)]

/-- All digits, the lowest first. -/
abbrev dg (b n : Nat) : List Nat := lw b (nd b n) n
theorem dg_vl {b : Nat} (hb : 2 ≤ b) (n : Nat) : vl b (dg b n) = n := by rw [vl_lw, Nat.mod_eq_of_lt (nd_lt hb n)]
/-- Digits are those of their number if the highest is not 0. -/
theorem dg_of {b : Nat} (hb : 2 ≤ b) {l : List Nat} (h : ∀ x ∈ l, x < b) (ht : ∀ x ∈ l.getLast?, x ≠ 0) : dg b (vl b l) = l := by
  have hl : nd b (vl b l) = l.length := by
    refine nd_eq hb (vl_lt h) fun hp => ?_
    have h1 : lw b l.length (vl b l) = l := lw_vl h
    have h2 : l.length - 1 < (lw b l.length (vl b l)).length := by rw [lw_length]; omega
    have h3 := lw_get h2
    rw [← h3]
    refine ht _ ?_
    rw [List.getLast?_eq_getElem?]
    have : l[l.length - 1]? = (lw b l.length (vl b l))[l.length - 1]? := by rw [h1]
    rw [this, List.getElem?_eq_getElem h2]
    rfl
  unfold dg
  rw [hl, lw_vl h]

/-- A digit as a letter. -/
def chr (d : Nat) : Int := if d < 10 then 48 + (d : Int) else 87 + (d : Int)
/-- The text of a number. -/
def txt (b n : Nat) : List Int := if n = 0 then [48] else (dg b n).reverse.map chr
/-- The value of a letter; 16: it is none. -/
def valc (c : Int) : Nat := if 48 ≤ c ∧ c ≤ 57 then (c - 48).toNat else if 97 ≤ c ∧ c ≤ 102 then (c - 87).toNat else 16
theorem valc_chr {d : Nat} (h : d < 16) : valc (chr d) = d := by
  unfold valc chr
  split <;> split <;> first | omega | (split <;> omega)
theorem chr_valc {c : Int} (h : valc c < 16) : chr (valc c) = c := by
  obtain ⟨v, hv⟩ : ∃ v, valc c = v := ⟨_, rfl⟩
  rw [hv] at h ⊢
  unfold valc at hv
  unfold chr
  split at hv
  · rw [if_pos (by omega)]; omega
  · split at hv
    · rw [if_neg (by omega)]; omega
    · omega
theorem chr_b {d : Nat} (h : d < 16) : 48 ≤ chr d ∧ chr d ≤ 102 := by unfold chr; split <;> omega
theorem chr_zero {d : Nat} (h : d < 16) : chr d = 48 ↔ d = 0 := by unfold chr; split <;> omega
/-- The number of a text of digits. -/
def num (b : Nat) (l : List Int) : Nat := vl b (l.map valc).reverse
theorem num_nil (b : Nat) : num b [] = 0 := rfl
theorem num_snoc (b : Nat) (l : List Int) (c : Int) : num b (l ++ [c]) = num b l * b + valc c := by
  unfold num
  simp only [List.map_append, List.map_cons, List.map_nil, List.reverse_append, List.reverse_cons, List.reverse_nil, List.nil_append, List.cons_append, vl]
  rw [Nat.mul_comm, Nat.add_comm]

theorem valc_map {b : Nat} (hb : b ≤ 16) {l : List Nat} (h : ∀ x ∈ l, x < b) : (l.map chr).map valc = l := by
  rw [List.map_map]
  conv => rhs; rw [← List.map_id l]
  exact List.map_congr_left fun x hx => valc_chr (by have := h x hx; omega)
theorem num_txt {b : Nat} (hb : 2 ≤ b) (hb2 : b ≤ 16) (n : Nat) : num b (txt b n) = n := by
  unfold txt
  split
  · rename_i h; subst h; unfold num; simp [valc, vl]
  · unfold num
    rw [valc_map hb2 (fun x hx => lw_lt (by omega) _ _ x (List.mem_reverse.1 hx)), List.reverse_reverse, dg_vl hb]
/-- What a text must be to be read. -/
def isT (b : Nat) (l : List Int) : Prop := l ≠ [] ∧ (l.head? = some 48 → l.length ≤ 1) ∧ ∀ c ∈ l, valc c < b
theorem txt_isT {b : Nat} (hb : 2 ≤ b) (hb2 : b ≤ 16) (n : Nat) : isT b (txt b n) := by
  unfold txt
  split
  · refine ⟨by simp, by simp, fun c hc => ?_⟩
    obtain rfl : c = 48 := by simpa using hc
    simp [valc]; omega
  · rename_i h
    have hn : nd b n ≠ 0 := fun h2 => h ((nd_zero_iff hb).1 h2)
    obtain ⟨k, hk⟩ : ∃ k, nd b n = k + 1 := ⟨nd b n - 1, by omega⟩
    have htop := nd_top hb (n := n) (by omega)
    have he : (dg b n).reverse = n / b ^ k % b :: (lw b k n).reverse := by unfold dg; rw [hk, lw_succ]; simp
    have hlt : n / b ^ k % b < b := Nat.mod_lt _ (by omega)
    rw [hk] at htop
    simp only [Nat.add_sub_cancel] at htop
    refine ⟨by simp [he], fun h2 => ?_, fun c hc => ?_⟩
    · rw [he, List.map_cons, List.head?_cons, Option.some.injEq, chr_zero (by omega)] at h2
      exact absurd h2 htop
    · obtain ⟨x, hx, rfl⟩ := List.mem_map.1 hc
      have := lw_lt (by omega) _ _ x (List.mem_reverse.1 hx)
      rw [valc_chr (by omega)]
      exact this
theorem txt_num {b : Nat} (hb : 2 ≤ b) (hb2 : b ≤ 16) {l : List Int} (h : isT b l) : txt b (num b l) = l := by
  obtain ⟨h0, h1, h2⟩ := h
  have hlt : ∀ x ∈ (l.map valc).reverse, x < b := by
    intro x hx
    obtain ⟨c, hc, rfl⟩ := List.mem_map.1 (List.mem_reverse.1 hx)
    exact h2 c hc
  have hchr : (l.map valc).map chr = l := by
    rw [List.map_map]
    conv => rhs; rw [← List.map_id l]
    exact List.map_congr_left fun x hx => chr_valc (by have := h2 x hx; omega)
  cases l with
  | nil => exact absurd rfl h0
  | cons c r =>
    by_cases hc : valc c = 0
    · have hc48 : c = 48 := by rw [← chr_valc (c := c) (by omega), hc]; rfl
      subst hc48
      have := h1 rfl
      have hr : r = [] := by cases r with
        | nil => rfl
        | cons => simp at this
      subst hr
      rfl
    · have hd : dg b (num b (c :: r)) = ((c :: r).map valc).reverse := by
        unfold num
        refine dg_of hb hlt fun x hx => ?_
        simp at hx
        subst hx
        exact hc
      have hn : num b (c :: r) ≠ 0 := fun h => by
        rw [h] at hd
        unfold dg at hd
        rw [nd_zero] at hd
        have := congrArg List.length hd
        simp [lw] at this
      unfold txt
      rw [if_neg hn, hd, List.reverse_reverse, hchr]
theorem num_lt {b : Nat} {l : List Int} (h : ∀ c ∈ l, valc c < b) : num b l < b ^ l.length := by
  have := vl_lt (b := b) (l := (l.map valc).reverse) fun x hx => by
    obtain ⟨c, hc, rfl⟩ := List.mem_map.1 (List.mem_reverse.1 hx)
    exact h c hc
  simpa [num] using this
end Go.Proofs.YtjaeblkgjbncmaaDoor

/-
  Words of numbers; small functions on them: valid numbers, zeros taken off.
-/
namespace Go.Proofs.YtjaeblkgjbncmaaDoor
set_option maxRecDepth 20000
set_option linter.unusedSimpArgs false
set_option linter.unusedVariables false
open Go Go.Fw
/-- The base of the words. -/
abbrev W : Nat := 4294967296
/-- The first k words of a number. -/
def wI (k N : Nat) : List Int := (lw W k N).map fun n : Nat => (n : Int)
theorem wI_length (k N : Nat) : (wI k N).length = k := by unfold wI; rw [List.length_map, lw_length]
theorem wI_get {k N i : Nat} (h : i < (wI k N).length) : (wI k N)[i] = ((N / W ^ i % W : Nat) : Int) := by
  unfold wI at h ⊢
  rw [List.getElem_map, lw_get]
theorem wI_b (k N : Nat) : ∀ x ∈ wI k N, 0 ≤ x ∧ x < 4294967296 := by
  intro x hx
  obtain ⟨n, hn, rfl⟩ := List.mem_map.1 hx
  have := lw_lt (by decide : 0 < W) _ _ n hn
  have e : W = 4294967296 := rfl
  omega
theorem wI_of {l : List Int} (h : ∀ x ∈ l, 0 ≤ x ∧ x < 4294967296) : ∃ N, N < W ^ l.length ∧ l = wI l.length N := by
  have e : (l.map Int.toNat).map (fun n : Nat => (n : Int)) = l := by
    rw [List.map_map]
    conv => rhs; rw [← List.map_id l]
    refine List.map_congr_left fun x hx => ?_
    have := h x hx
    simp only [Function.comp, id]
    omega
  have hb : ∀ x ∈ l.map Int.toNat, x < W := by
    intro x hx
    obtain ⟨y, hy, rfl⟩ := List.mem_map.1 hx
    have := h y hy
    have e : W = 4294967296 := rfl
    omega
  refine ⟨vl W (l.map Int.toNat), ?_, ?_⟩
  · have := vl_lt hb
    rwa [List.length_map] at this
  · have h1 := lw_vl hb
    rw [List.length_map] at h1
    unfold wI
    rw [h1, e]
theorem wI_take {j k : Nat} (N : Nat) (h : j ≤ k) : (wI k N).take j = wI j N := by unfold wI; rw [← List.map_take, lw_take N h]
theorem wI_zero (N : Nat) : wI 0 N = [] := rfl
theorem wI_succ (k N : Nat) : wI (k + 1) N = wI k N ++ [((N / W ^ k % W : Nat) : Int)] := by unfold wI; rw [lw_succ, List.map_append]; rfl
theorem wI_mod {j k : Nat} (N : Nat) (h : k ≤ j) : wI k (N % W ^ j) = wI k N := by unfold wI; rw [lw_mod N h]
theorem wI_inj {k N N' : Nat} (h : N < W ^ k) (h' : N' < W ^ k) (e : wI k N = wI k N') : N = N' := by
  have e2 : lw W k N = lw W k N' := by
    have hf : Function.Injective (fun n : Nat => (n : Int)) := fun a b h => Int.ofNat.inj h
    exact (List.map_inj_right (fun a b h => hf h)).1 e
  have := congrArg (vl W) e2
  rwa [vl_lw, vl_lw, Nat.mod_eq_of_lt h, Nat.mod_eq_of_lt h'] at this
/-- The number is valid. -/
def vd (k N : Nat) : Bool := decide (k ≤ 64 ∧ nd W N = k)
theorem nd_of_zero {N : Nat} (h : N < W ^ 0) : nd W N = 0 := by
  obtain rfl : N = 0 := by simpa using h
  exact nd_zero W
theorem vd_nil {N : Nat} (h : N < W ^ 0) : vd 0 N = true := by unfold vd; rw [nd_of_zero h]; rfl
theorem vd_big {k N : Nat} (h : ¬ k ≤ 64) : vd k N = false := decide_eq_false fun h2 => h h2.1
theorem lt_of_top {j N : Nat} (h0 : 0 < j) (h : N < W ^ j) (hz : N / W ^ (j - 1) % W = 0) : N < W ^ (j - 1) := by
  obtain ⟨m, rfl⟩ : ∃ m, j = m + 1 := ⟨j - 1, by omega⟩
  simp only [Nat.add_sub_cancel] at hz ⊢
  have h4 : N / W ^ m < W := (Nat.div_lt_iff_lt_mul (Nat.pow_pos (by decide))).2 (by rwa [Nat.pow_succ'] at h)
  rw [Nat.mod_eq_of_lt h4] at hz
  exact (Nat.div_eq_zero_iff_lt (Nat.pow_pos (by decide))).1 hz
theorem vd_pos {k N : Nat} (h : N < W ^ k) (h64 : k ≤ 64) (h0 : 0 < k) : vd k N = decide (N / W ^ (k - 1) % W ≠ 0) := by
  unfold vd
  refine decide_eq_decide.2 ⟨fun ⟨_, h2⟩ hz => ?_, fun hz => ⟨h64, nd_eq (by decide) h fun _ => hz⟩⟩
  have := nd_le (by decide) (lt_of_top h0 h hz)
  omega
theorem slicedA_zero (a : Option Addr) (m sz : Nat) : slicedA a 0 m sz = a := by
  unfold slicedA
  split
  · rfl
  · cases a with
    | none => rfl
    | some a => simp [Addr.add]
end Go.Proofs.YtjaeblkgjbncmaaDoor
namespace Go.Proofs.YtjaeblkgjbncmaaDoor
set_option maxRecDepth 20000
set_option linter.unusedSimpArgs false
set_option linter.unusedVariables false
open Go Go.Fw
attribute [local irreducible] CW OL OD FX Stp FnC FnV Ret wI vd
set_option maxHeartbeats 800000

theorem great_spec (w : World) {a : Option Addr} {k c : Nat} : FnC Tryd.prog 15 [.agg [.slice a k c].toArray] w (fun v _ => v = .bool (decide (100 < k))) := by
  refine enterF (M := View.of w) Tryd.func15 rfl rfl rfl rfl (View.le.refl _) ?_
  by_cases h : 100 < k
  · rw [decide_eq_true h]
    repeat' first
      | apply cw_seq
      | (refine cw_region_id 0 ?_; (apply ol_val; exact rfl; first | (apply s_boxN; exact rfl; intro bk1) | (apply s_box1; exact rfl; exact rfl; intro bk1)); (apply ol_as; exact rfl; exact rfl); (apply ol_nil))
      | (refine cw_region_id 1 ?_; (apply ol_fa; exact rfl; exact rfl; exact fd_25_0; (first | exact Nat.zero_add _ | exact Nat.add_zero _ | exact rfl)); (apply ol_ld; exact rfl; exact rfl; exact rfl; (apply RdN.own; (focus ((repeat constructor); done)); exact GetN.cons rfl GetN.nil)); (apply ol_val; exact rfl; apply stp_pur; apply s_len; exact rfl; exact el_23); (apply ol_val; exact rfl; apply stp_cmp; apply s_gtr; exact rfl; exact rfl; all_goals (intro hc6; try (exfalso; (first | exact hc6 rfl | omega)))); all_goals (apply ol_as; exact rfl; exact rfl); all_goals (apply ol_nil))
      | (apply cw_cond_true; exact rfl; (first | exact rfl | assumption))
      | (apply cw_cond_false; exact rfl; (first | exact rfl | assumption))
      | apply cw_skip
      | apply cw_ret
      | apply cw_block
      | apply cw_exit
    all_goals (refine ends [] (RVal.tmp rfl RVal.nil) Pick.nil ?_; rfl)
  · rw [decide_eq_false h]
    repeat' first
      | apply cw_seq
      | (refine cw_region_id 0 ?_; (apply ol_val; exact rfl; first | (apply s_boxN; exact rfl; intro bk1) | (apply s_box1; exact rfl; exact rfl; intro bk1)); (apply ol_as; exact rfl; exact rfl); (apply ol_nil))
      | (refine cw_region_id 1 ?_; (apply ol_fa; exact rfl; exact rfl; exact fd_25_0; (first | exact Nat.zero_add _ | exact Nat.add_zero _ | exact rfl)); (apply ol_ld; exact rfl; exact rfl; exact rfl; (apply RdN.own; (focus ((repeat constructor); done)); exact GetN.cons rfl GetN.nil)); (apply ol_val; exact rfl; apply stp_pur; apply s_len; exact rfl; exact el_23); (apply ol_val; exact rfl; apply stp_cmp; apply s_gtr; exact rfl; exact rfl; all_goals (intro hc6; try (exfalso; (first | exact hc6 rfl | omega)))); all_goals (apply ol_as; exact rfl; exact rfl); all_goals (apply ol_nil))
      | (apply cw_cond_true; exact rfl; (first | exact rfl | assumption))
      | (apply cw_cond_false; exact rfl; (first | exact rfl | assumption))
      | apply cw_skip
      | apply cw_ret
      | apply cw_block
      | apply cw_exit
    all_goals (refine ends [] (RVal.tmp rfl RVal.nil) Pick.nil ?_; rfl)

theorem valid_spec {M : View} {w : World} (hM : View.le M (View.of w)) {a : Option Addr} {b o c k N : Nat} (hN : N < W ^ k) (hk : k ≤ 1000) (s : SlA M (eK .u32) 1 a (wI k N) b o) :
    FnC Tryd.prog 25 [.agg [.slice a k c].toArray] w (fun v _ => v = .bool (vd k N)) := by
  refine enterF (M := M) Tryd.func25 rfl rfl rfl rfl hM ?_
  by_cases h64 : k ≤ 64
  · by_cases h0 : k = 0
    · subst h0
      rw [vd_nil hN]
      repeat' first
        | apply cw_seq
        | (refine cw_region_id 0 ?_; (apply ol_val; exact rfl; first | (apply s_boxN; exact rfl; intro bk1) | (apply s_box1; exact rfl; exact rfl; intro bk1)); (apply ol_as; exact rfl; exact rfl); (apply ol_nil))
        | (refine cw_region_id 1 ?_; (apply ol_fa; exact rfl; exact rfl; exact fd_25_0; (first | exact Nat.zero_add _ | exact Nat.add_zero _ | exact rfl)); (apply ol_ld; exact rfl; exact rfl; exact rfl; (apply RdN.own; (focus ((repeat constructor); done)); exact GetN.cons rfl GetN.nil)); (apply ol_val; exact rfl; apply stp_pur; apply s_len; exact rfl; exact el_23); (apply ol_val; exact rfl; apply stp_cmp; apply s_leq; exact rfl; exact rfl; all_goals (intro hc6; try (exfalso; (first | exact hc6 rfl | omega)))); all_goals (apply ol_mv; exact rfl; exact rfl); all_goals (first | (apply ol_gskip; exact rfl; exact rfl; (first | exact rfl | assumption); exact rfl) | (apply ol_gval; exact rfl; exact rfl; exact rfl; (first | exact rfl | assumption); apply stp_pur; apply s_fieldAddr'; exact rfl; exact fd_25_0; (first | exact Nat.zero_add _ | exact Nat.add_zero _ | exact rfl))); all_goals (first | (apply ol_gskip; exact rfl; exact rfl; (first | exact rfl | assumption); exact rfl) | (apply ol_gval; exact rfl; exact rfl; exact rfl; (first | exact rfl | assumption); apply stp_pur; apply s_load1; exact rfl; exact rfl; (apply RdN.own; (focus ((repeat constructor); done)); exact GetN.cons rfl GetN.nil))); all_goals (first | (apply ol_gskip; exact rfl; exact rfl; (first | exact rfl | assumption); exact rfl) | (apply ol_gval; exact rfl; exact rfl; exact rfl; (first | exact rfl | assumption); apply stp_pur; apply s_len; exact rfl; exact el_23)); all_goals (first | (apply ol_gskip; exact rfl; exact rfl; (first | exact rfl | assumption); exact rfl) | (apply ol_gval; exact rfl; exact rfl; exact rfl; (first | exact rfl | assumption); apply stp_cmp; apply s_eql; exact rfl; exact rfl; all_goals (intro hc11; try (exfalso; (first | exact hc11 rfl | omega))))); all_goals (first | (apply ol_gskip; exact rfl; exact rfl; (first | exact rfl | assumption); exact rfl) | (apply ol_gval; exact rfl; exact rfl; exact rfl; (first | exact rfl | assumption); apply stp_pur; apply s_move; exact rfl)); all_goals (first | (apply ol_gskip; exact rfl; exact rfl; (first | exact rfl | assumption); exact rfl) | (apply ol_gskipu; exact rfl; exact rfl; exact rfl) | (apply ol_gval; exact rfl; exact rfl; exact rfl; (first | exact rfl | assumption); apply stp_pur; apply s_fieldAddr'; exact rfl; exact fd_25_0; (first | exact Nat.zero_add _ | exact Nat.add_zero _ | exact rfl))); all_goals (first | (apply ol_gskip; exact rfl; exact rfl; (first | exact rfl | assumption); exact rfl) | (apply ol_gskipu; exact rfl; exact rfl; exact rfl) | (apply ol_gval; exact rfl; exact rfl; exact rfl; (first | exact rfl | assumption); apply stp_pur; apply s_load1; exact rfl; exact rfl; (apply RdN.own; (focus ((repeat constructor); done)); exact GetN.cons rfl GetN.nil))); all_goals (first | (apply ol_gskip; exact rfl; exact rfl; (first | exact rfl | assumption); exact rfl) | (apply ol_gskipu; exact rfl; exact rfl; exact rfl) | (apply ol_gval; exact rfl; exact rfl; exact rfl; (first | exact rfl | assumption); apply stp_pur; apply s_fieldAddr'; exact rfl; exact fd_25_0; (first | exact Nat.zero_add _ | exact Nat.add_zero _ | exact rfl))); all_goals (first | (apply ol_gskip; exact rfl; exact rfl; (first | exact rfl | assumption); exact rfl) | (apply ol_gskipu; exact rfl; exact rfl; exact rfl) | (apply ol_gval; exact rfl; exact rfl; exact rfl; (first | exact rfl | assumption); apply stp_pur; apply s_load1; exact rfl; exact rfl; (apply RdN.own; (focus ((repeat constructor); done)); exact GetN.cons rfl GetN.nil))); all_goals (first | (apply ol_gskip; exact rfl; exact rfl; (first | exact rfl | assumption); exact rfl) | (apply ol_gskipu; exact rfl; exact rfl; exact rfl) | (apply ol_gval; exact rfl; exact rfl; exact rfl; (first | exact rfl | assumption); apply stp_pur; apply s_len; exact rfl; exact el_23)); all_goals (first | (apply ol_gskip; exact rfl; exact rfl; (first | exact rfl | assumption); exact rfl) | (apply ol_gskipu; exact rfl; exact rfl; exact rfl) | (apply ol_gval; exact rfl; exact rfl; exact rfl; (first | exact rfl | assumption); apply stp_pur; apply s_sub64; exact rfl; exact rfl; omega)); all_goals (first | (apply ol_gskip; exact rfl; exact rfl; (first | exact rfl | assumption); exact rfl) | (apply ol_gskipu; exact rfl; exact rfl; exact rfl) | (apply ol_gval; exact rfl; exact rfl; exact rfl; (first | exact rfl | assumption); apply stp_pur; first | (apply s_indexK; exact rfl; exact rfl; exact el_23; exact sz_51; (first | exact rfl); omega) | (apply s_indexO; exact rfl; exact rfl; exact el_23; exact sz_51; (first | exact rfl); omega))); all_goals (first | (apply ol_gskip; exact rfl; exact rfl; (first | exact rfl | assumption); exact rfl) | (apply ol_gskipu; exact rfl; exact rfl; exact rfl) | (apply ol_gval; exact rfl; exact rfl; exact rfl; (first | exact rfl | assumption); apply stp_pur; apply s_load1; exact rfl; exact rfl; (apply RdN.own; (focus ((repeat constructor); done)); (first | exact GetN.cons rfl GetN.nil | (apply getN_ints_app; (first | omega | (simp; omega) | (simp; done))) | (apply getN_ints; (first | omega | (simp; omega) | (simp; done))))))); all_goals (first | (apply ol_gskip; exact rfl; exact rfl; (first | exact rfl | assumption); exact rfl) | (apply ol_gskipu; exact rfl; exact rfl; exact rfl) | (apply ol_gval; exact rfl; exact rfl; exact rfl; (first | exact rfl | assumption); apply stp_cmp; apply s_neq; exact rfl; exact rfl; all_goals (intro hc21; try (exfalso; (first | exact hc21 rfl | omega))))); all_goals (first | (apply ol_gskip; exact rfl; exact rfl; (first | exact rfl | assumption); exact rfl) | (apply ol_gval; exact rfl; exact rfl; exact rfl; (first | exact rfl | assumption); apply stp_pur; first | (apply s_pick_t; exact rfl; (first | exact rfl | assumption); exact rfl) | (apply s_pick_f; exact rfl; (first | exact rfl | assumption); exact rfl))); all_goals (apply ol_val; exact rfl; apply stp_pur; first | (apply s_pick_t; exact rfl; (first | exact rfl | assumption); exact rfl) | (apply s_pick_f; exact rfl; (first | exact rfl | assumption); exact rfl)); all_goals (apply ol_as; exact rfl; exact rfl); all_goals (apply ol_nil))
        | (apply cw_cond_true; exact rfl; (first | exact rfl | assumption))
        | (apply cw_cond_false; exact rfl; (first | exact rfl | assumption))
        | apply cw_skip
        | apply cw_ret
        | apply cw_block
        | apply cw_exit
      all_goals (refine ends [] (RVal.tmp rfl RVal.nil) Pick.nil ?_; rfl)
    · have hl : k - 1 < (wI k N).length := by rw [wI_length]; omega
      have hc := s.cells (k - 1) hl
      have hq : o + ((k : Int) - 1).toNat * 1 = o + (k - 1) * 1 := by omega
      rw [← hq] at hc
      have hz := wI_get hl
      have hv := vd_pos (N := N) (k := k) hN h64 (by omega)
      generalize (wI k N)[k - 1]'hl = z at *
      by_cases hz0 : z = 0
      · rw [hv, decide_eq_false (show ¬ (N / W ^ (k - 1) % W ≠ 0) by omega)]
        repeat' first
          | apply cw_seq
          | (refine cw_region_id 0 ?_; (apply ol_val; exact rfl; first | (apply s_boxN; exact rfl; intro bk1) | (apply s_box1; exact rfl; exact rfl; intro bk1)); (apply ol_as; exact rfl; exact rfl); (apply ol_nil))
          | (refine cw_region_id 1 ?_; (apply ol_fa; exact rfl; exact rfl; exact fd_25_0; (first | exact Nat.zero_add _ | exact Nat.add_zero _ | exact rfl)); (apply ol_ld; exact rfl; exact rfl; exact rfl; (first | (apply RdN.own; (focus ((repeat constructor); done)); exact GetN.cons rfl GetN.nil) | (apply RdN.view; exact hc))); (apply ol_val; exact rfl; apply stp_pur; apply s_len; exact rfl; exact el_23); (apply ol_val; exact rfl; apply stp_cmp; apply s_leq; exact rfl; exact rfl; all_goals (intro hc6; try (exfalso; (first | exact hc6 rfl | omega)))); all_goals (apply ol_mv; exact rfl; exact rfl); all_goals (first | (apply ol_gskip; exact rfl; exact rfl; (first | exact rfl | assumption); exact rfl) | (apply ol_gval; exact rfl; exact rfl; exact rfl; (first | exact rfl | assumption); apply stp_pur; apply s_fieldAddr'; exact rfl; exact fd_25_0; (first | exact Nat.zero_add _ | exact Nat.add_zero _ | exact rfl))); all_goals (first | (apply ol_gskip; exact rfl; exact rfl; (first | exact rfl | assumption); exact rfl) | (apply ol_gval; exact rfl; exact rfl; exact rfl; (first | exact rfl | assumption); apply stp_pur; apply s_load1; exact rfl; exact rfl; (first | (apply RdN.own; (focus ((repeat constructor); done)); exact GetN.cons rfl GetN.nil) | (apply RdN.view; exact hc)))); all_goals (first | (apply ol_gskip; exact rfl; exact rfl; (first | exact rfl | assumption); exact rfl) | (apply ol_gval; exact rfl; exact rfl; exact rfl; (first | exact rfl | assumption); apply stp_pur; apply s_len; exact rfl; exact el_23)); all_goals (first | (apply ol_gskip; exact rfl; exact rfl; (first | exact rfl | assumption); exact rfl) | (apply ol_gval; exact rfl; exact rfl; exact rfl; (first | exact rfl | assumption); apply stp_cmp; apply s_eql; exact rfl; exact rfl; all_goals (intro hc11; try (exfalso; (first | exact hc11 rfl | omega))))); all_goals (first | (apply ol_gskip; exact rfl; exact rfl; (first | exact rfl | assumption); exact rfl) | (apply ol_gval; exact rfl; exact rfl; exact rfl; (first | exact rfl | assumption); apply stp_pur; apply s_move; exact rfl)); all_goals (first | (apply ol_gskip; exact rfl; exact rfl; (first | exact rfl | assumption); exact rfl) | (apply ol_gskipu; exact rfl; exact rfl; exact rfl) | (apply ol_gval; exact rfl; exact rfl; exact rfl; (first | exact rfl | assumption); apply stp_pur; apply s_fieldAddr'; exact rfl; exact fd_25_0; (first | exact Nat.zero_add _ | exact Nat.add_zero _ | exact rfl))); all_goals (first | (apply ol_gskip; exact rfl; exact rfl; (first | exact rfl | assumption); exact rfl) | (apply ol_gskipu; exact rfl; exact rfl; exact rfl) | (apply ol_gval; exact rfl; exact rfl; exact rfl; (first | exact rfl | assumption); apply stp_pur; apply s_load1; exact rfl; exact rfl; (first | (apply RdN.own; (focus ((repeat constructor); done)); exact GetN.cons rfl GetN.nil) | (apply RdN.view; exact hc)))); all_goals (first | (apply ol_gskip; exact rfl; exact rfl; (first | exact rfl | assumption); exact rfl) | (apply ol_gskipu; exact rfl; exact rfl; exact rfl) | (apply ol_gval; exact rfl; exact rfl; exact rfl; (first | exact rfl | assumption); apply stp_pur; apply s_fieldAddr'; exact rfl; exact fd_25_0; (first | exact Nat.zero_add _ | exact Nat.add_zero _ | exact rfl))); all_goals (first | (apply ol_gskip; exact rfl; exact rfl; (first | exact rfl | assumption); exact rfl) | (apply ol_gskipu; exact rfl; exact rfl; exact rfl) | (apply ol_gval; exact rfl; exact rfl; exact rfl; (first | exact rfl | assumption); apply stp_pur; apply s_load1; exact rfl; exact rfl; (first | (apply RdN.own; (focus ((repeat constructor); done)); exact GetN.cons rfl GetN.nil) | (apply RdN.view; exact hc)))); all_goals (first | (apply ol_gskip; exact rfl; exact rfl; (first | exact rfl | assumption); exact rfl) | (apply ol_gskipu; exact rfl; exact rfl; exact rfl) | (apply ol_gval; exact rfl; exact rfl; exact rfl; (first | exact rfl | assumption); apply stp_pur; apply s_len; exact rfl; exact el_23)); all_goals (first | (apply ol_gskip; exact rfl; exact rfl; (first | exact rfl | assumption); exact rfl) | (apply ol_gskipu; exact rfl; exact rfl; exact rfl) | (apply ol_gval; exact rfl; exact rfl; exact rfl; (first | exact rfl | assumption); apply stp_pur; apply s_sub64; exact rfl; exact rfl; omega)); all_goals (first | (apply ol_gskip; exact rfl; exact rfl; (first | exact rfl | assumption); exact rfl) | (apply ol_gskipu; exact rfl; exact rfl; exact rfl) | (apply ol_gval; exact rfl; exact rfl; exact rfl; (first | exact rfl | assumption); apply stp_pur; first | (apply s_indexK; exact rfl; exact rfl; exact el_23; exact sz_51; (first | exact rfl | exact s.at_ (by rw [wI_length]; omega)); omega) | (apply s_indexO; exact rfl; exact rfl; exact el_23; exact sz_51; (first | exact rfl | exact s.at_ (by rw [wI_length]; omega)); omega))); all_goals (first | (apply ol_gskip; exact rfl; exact rfl; (first | exact rfl | assumption); exact rfl) | (apply ol_gskipu; exact rfl; exact rfl; exact rfl) | (apply ol_gval; exact rfl; exact rfl; exact rfl; (first | exact rfl | assumption); apply stp_pur; apply s_load1; exact rfl; exact rfl; (first | (apply RdN.own; (focus ((repeat constructor); done)); (first | exact GetN.cons rfl GetN.nil | (apply getN_ints_app; (first | omega | (simp; omega) | (simp; done))) | (apply getN_ints; (first | omega | (simp; omega) | (simp; done))))) | (apply RdN.view; exact hc)))); all_goals (first | (apply ol_gskip; exact rfl; exact rfl; (first | exact rfl | assumption); exact rfl) | (apply ol_gskipu; exact rfl; exact rfl; exact rfl) | (apply ol_gval; exact rfl; exact rfl; exact rfl; (first | exact rfl | assumption); apply stp_cmp; apply s_neq; exact rfl; exact rfl; all_goals (intro hc21; try (exfalso; (first | exact hc21 rfl | omega))))); all_goals (first | (apply ol_gskip; exact rfl; exact rfl; (first | exact rfl | assumption); exact rfl) | (apply ol_gval; exact rfl; exact rfl; exact rfl; (first | exact rfl | assumption); apply stp_pur; first | (apply s_pick_t; exact rfl; (first | exact rfl | assumption); exact rfl) | (apply s_pick_f; exact rfl; (first | exact rfl | assumption); exact rfl))); all_goals (apply ol_val; exact rfl; apply stp_pur; first | (apply s_pick_t; exact rfl; (first | exact rfl | assumption); exact rfl) | (apply s_pick_f; exact rfl; (first | exact rfl | assumption); exact rfl)); all_goals (apply ol_as; exact rfl; exact rfl); all_goals (apply ol_nil))
          | (apply cw_cond_true; exact rfl; (first | exact rfl | assumption))
          | (apply cw_cond_false; exact rfl; (first | exact rfl | assumption))
          | apply cw_skip
          | apply cw_ret
          | apply cw_block
          | apply cw_exit
        all_goals (refine ends [] (RVal.tmp rfl RVal.nil) Pick.nil ?_; rfl)
      · rw [hv, decide_eq_true (show N / W ^ (k - 1) % W ≠ 0 by omega)]
        repeat' first
          | apply cw_seq
          | (refine cw_region_id 0 ?_; (apply ol_val; exact rfl; first | (apply s_boxN; exact rfl; intro bk1) | (apply s_box1; exact rfl; exact rfl; intro bk1)); (apply ol_as; exact rfl; exact rfl); (apply ol_nil))
          | (refine cw_region_id 1 ?_; (apply ol_fa; exact rfl; exact rfl; exact fd_25_0; (first | exact Nat.zero_add _ | exact Nat.add_zero _ | exact rfl)); (apply ol_ld; exact rfl; exact rfl; exact rfl; (first | (apply RdN.own; (focus ((repeat constructor); done)); exact GetN.cons rfl GetN.nil) | (apply RdN.view; exact hc))); (apply ol_val; exact rfl; apply stp_pur; apply s_len; exact rfl; exact el_23); (apply ol_val; exact rfl; apply stp_cmp; apply s_leq; exact rfl; exact rfl; all_goals (intro hc6; try (exfalso; (first | exact hc6 rfl | omega)))); all_goals (apply ol_mv; exact rfl; exact rfl); all_goals (first | (apply ol_gskip; exact rfl; exact rfl; (first | exact rfl | assumption); exact rfl) | (apply ol_gval; exact rfl; exact rfl; exact rfl; (first | exact rfl | assumption); apply stp_pur; apply s_fieldAddr'; exact rfl; exact fd_25_0; (first | exact Nat.zero_add _ | exact Nat.add_zero _ | exact rfl))); all_goals (first | (apply ol_gskip; exact rfl; exact rfl; (first | exact rfl | assumption); exact rfl) | (apply ol_gval; exact rfl; exact rfl; exact rfl; (first | exact rfl | assumption); apply stp_pur; apply s_load1; exact rfl; exact rfl; (first | (apply RdN.own; (focus ((repeat constructor); done)); exact GetN.cons rfl GetN.nil) | (apply RdN.view; exact hc)))); all_goals (first | (apply ol_gskip; exact rfl; exact rfl; (first | exact rfl | assumption); exact rfl) | (apply ol_gval; exact rfl; exact rfl; exact rfl; (first | exact rfl | assumption); apply stp_pur; apply s_len; exact rfl; exact el_23)); all_goals (first | (apply ol_gskip; exact rfl; exact rfl; (first | exact rfl | assumption); exact rfl) | (apply ol_gval; exact rfl; exact rfl; exact rfl; (first | exact rfl | assumption); apply stp_cmp; apply s_eql; exact rfl; exact rfl; all_goals (intro hc11; try (exfalso; (first | exact hc11 rfl | omega))))); all_goals (first | (apply ol_gskip; exact rfl; exact rfl; (first | exact rfl | assumption); exact rfl) | (apply ol_gval; exact rfl; exact rfl; exact rfl; (first | exact rfl | assumption); apply stp_pur; apply s_move; exact rfl)); all_goals (first | (apply ol_gskip; exact rfl; exact rfl; (first | exact rfl | assumption); exact rfl) | (apply ol_gskipu; exact rfl; exact rfl; exact rfl) | (apply ol_gval; exact rfl; exact rfl; exact rfl; (first | exact rfl | assumption); apply stp_pur; apply s_fieldAddr'; exact rfl; exact fd_25_0; (first | exact Nat.zero_add _ | exact Nat.add_zero _ | exact rfl))); all_goals (first | (apply ol_gskip; exact rfl; exact rfl; (first | exact rfl | assumption); exact rfl) | (apply ol_gskipu; exact rfl; exact rfl; exact rfl) | (apply ol_gval; exact rfl; exact rfl; exact rfl; (first | exact rfl | assumption); apply stp_pur; apply s_load1; exact rfl; exact rfl; (first | (apply RdN.own; (focus ((repeat constructor); done)); exact GetN.cons rfl GetN.nil) | (apply RdN.view; exact hc)))); all_goals (first | (apply ol_gskip; exact rfl; exact rfl; (first | exact rfl | assumption); exact rfl) | (apply ol_gskipu; exact rfl; exact rfl; exact rfl) | (apply ol_gval; exact rfl; exact rfl; exact rfl; (first | exact rfl | assumption); apply stp_pur; apply s_fieldAddr'; exact rfl; exact fd_25_0; (first | exact Nat.zero_add _ | exact Nat.add_zero _ | exact rfl))); all_goals (first | (apply ol_gskip; exact rfl; exact rfl; (first | exact rfl | assumption); exact rfl) | (apply ol_gskipu; exact rfl; exact rfl; exact rfl) | (apply ol_gval; exact rfl; exact rfl; exact rfl; (first | exact rfl | assumption); apply stp_pur; apply s_load1; exact rfl; exact rfl; (first | (apply RdN.own; (focus ((repeat constructor); done)); exact GetN.cons rfl GetN.nil) | (apply RdN.view; exact hc)))); all_goals (first | (apply ol_gskip; exact rfl; exact rfl; (first | exact rfl | assumption); exact rfl) | (apply ol_gskipu; exact rfl; exact rfl; exact rfl) | (apply ol_gval; exact rfl; exact rfl; exact rfl; (first | exact rfl | assumption); apply stp_pur; apply s_len; exact rfl; exact el_23)); all_goals (first | (apply ol_gskip; exact rfl; exact rfl; (first | exact rfl | assumption); exact rfl) | (apply ol_gskipu; exact rfl; exact rfl; exact rfl) | (apply ol_gval; exact rfl; exact rfl; exact rfl; (first | exact rfl | assumption); apply stp_pur; apply s_sub64; exact rfl; exact rfl; omega)); all_goals (first | (apply ol_gskip; exact rfl; exact rfl; (first | exact rfl | assumption); exact rfl) | (apply ol_gskipu; exact rfl; exact rfl; exact rfl) | (apply ol_gval; exact rfl; exact rfl; exact rfl; (first | exact rfl | assumption); apply stp_pur; first | (apply s_indexK; exact rfl; exact rfl; exact el_23; exact sz_51; (first | exact rfl | exact s.at_ (by rw [wI_length]; omega)); omega) | (apply s_indexO; exact rfl; exact rfl; exact el_23; exact sz_51; (first | exact rfl | exact s.at_ (by rw [wI_length]; omega)); omega))); all_goals (first | (apply ol_gskip; exact rfl; exact rfl; (first | exact rfl | assumption); exact rfl) | (apply ol_gskipu; exact rfl; exact rfl; exact rfl) | (apply ol_gval; exact rfl; exact rfl; exact rfl; (first | exact rfl | assumption); apply stp_pur; apply s_load1; exact rfl; exact rfl; (first | (apply RdN.own; (focus ((repeat constructor); done)); (first | exact GetN.cons rfl GetN.nil | (apply getN_ints_app; (first | omega | (simp; omega) | (simp; done))) | (apply getN_ints; (first | omega | (simp; omega) | (simp; done))))) | (apply RdN.view; exact hc)))); all_goals (first | (apply ol_gskip; exact rfl; exact rfl; (first | exact rfl | assumption); exact rfl) | (apply ol_gskipu; exact rfl; exact rfl; exact rfl) | (apply ol_gval; exact rfl; exact rfl; exact rfl; (first | exact rfl | assumption); apply stp_cmp; apply s_neq; exact rfl; exact rfl; all_goals (intro hc21; try (exfalso; (first | exact hc21 rfl | omega))))); all_goals (first | (apply ol_gskip; exact rfl; exact rfl; (first | exact rfl | assumption); exact rfl) | (apply ol_gval; exact rfl; exact rfl; exact rfl; (first | exact rfl | assumption); apply stp_pur; first | (apply s_pick_t; exact rfl; (first | exact rfl | assumption); exact rfl) | (apply s_pick_f; exact rfl; (first | exact rfl | assumption); exact rfl))); all_goals (apply ol_val; exact rfl; apply stp_pur; first | (apply s_pick_t; exact rfl; (first | exact rfl | assumption); exact rfl) | (apply s_pick_f; exact rfl; (first | exact rfl | assumption); exact rfl)); all_goals (apply ol_as; exact rfl; exact rfl); all_goals (apply ol_nil))
          | (apply cw_cond_true; exact rfl; (first | exact rfl | assumption))
          | (apply cw_cond_false; exact rfl; (first | exact rfl | assumption))
          | apply cw_skip
          | apply cw_ret
          | apply cw_block
          | apply cw_exit
        all_goals (refine ends [] (RVal.tmp rfl RVal.nil) Pick.nil ?_; rfl)
  · rw [vd_big h64]
    repeat' first
      | apply cw_seq
      | (refine cw_region_id 0 ?_; (apply ol_val; exact rfl; first | (apply s_boxN; exact rfl; intro bk1) | (apply s_box1; exact rfl; exact rfl; intro bk1)); (apply ol_as; exact rfl; exact rfl); (apply ol_nil))
      | (refine cw_region_id 1 ?_; (apply ol_fa; exact rfl; exact rfl; exact fd_25_0; (first | exact Nat.zero_add _ | exact Nat.add_zero _ | exact rfl)); (apply ol_ld; exact rfl; exact rfl; exact rfl; (apply RdN.own; (focus ((repeat constructor); done)); exact GetN.cons rfl GetN.nil)); (apply ol_val; exact rfl; apply stp_pur; apply s_len; exact rfl; exact el_23); (apply ol_val; exact rfl; apply stp_cmp; apply s_leq; exact rfl; exact rfl; all_goals (intro hc6; try (exfalso; (first | exact hc6 rfl | omega)))); all_goals (apply ol_mv; exact rfl; exact rfl); all_goals (first | (apply ol_gskip; exact rfl; exact rfl; (first | exact rfl | assumption); exact rfl) | (apply ol_gval; exact rfl; exact rfl; exact rfl; (first | exact rfl | assumption); apply stp_pur; apply s_fieldAddr'; exact rfl; exact fd_25_0; (first | exact Nat.zero_add _ | exact Nat.add_zero _ | exact rfl))); all_goals (first | (apply ol_gskip; exact rfl; exact rfl; (first | exact rfl | assumption); exact rfl) | (apply ol_gval; exact rfl; exact rfl; exact rfl; (first | exact rfl | assumption); apply stp_pur; apply s_load1; exact rfl; exact rfl; (apply RdN.own; (focus ((repeat constructor); done)); exact GetN.cons rfl GetN.nil))); all_goals (first | (apply ol_gskip; exact rfl; exact rfl; (first | exact rfl | assumption); exact rfl) | (apply ol_gval; exact rfl; exact rfl; exact rfl; (first | exact rfl | assumption); apply stp_pur; apply s_len; exact rfl; exact el_23)); all_goals (first | (apply ol_gskip; exact rfl; exact rfl; (first | exact rfl | assumption); exact rfl) | (apply ol_gval; exact rfl; exact rfl; exact rfl; (first | exact rfl | assumption); apply stp_cmp; apply s_eql; exact rfl; exact rfl; all_goals (intro hc11; try (exfalso; (first | exact hc11 rfl | omega))))); all_goals (first | (apply ol_gskip; exact rfl; exact rfl; (first | exact rfl | assumption); exact rfl) | (apply ol_gval; exact rfl; exact rfl; exact rfl; (first | exact rfl | assumption); apply stp_pur; apply s_move; exact rfl)); all_goals (first | (apply ol_gskip; exact rfl; exact rfl; (first | exact rfl | assumption); exact rfl) | (apply ol_gskipu; exact rfl; exact rfl; exact rfl) | (apply ol_gval; exact rfl; exact rfl; exact rfl; (first | exact rfl | assumption); apply stp_pur; apply s_fieldAddr'; exact rfl; exact fd_25_0; (first | exact Nat.zero_add _ | exact Nat.add_zero _ | exact rfl))); all_goals (first | (apply ol_gskip; exact rfl; exact rfl; (first | exact rfl | assumption); exact rfl) | (apply ol_gskipu; exact rfl; exact rfl; exact rfl) | (apply ol_gval; exact rfl; exact rfl; exact rfl; (first | exact rfl | assumption); apply stp_pur; apply s_load1; exact rfl; exact rfl; (apply RdN.own; (focus ((repeat constructor); done)); exact GetN.cons rfl GetN.nil))); all_goals (first | (apply ol_gskip; exact rfl; exact rfl; (first | exact rfl | assumption); exact rfl) | (apply ol_gskipu; exact rfl; exact rfl; exact rfl) | (apply ol_gval; exact rfl; exact rfl; exact rfl; (first | exact rfl | assumption); apply stp_pur; apply s_fieldAddr'; exact rfl; exact fd_25_0; (first | exact Nat.zero_add _ | exact Nat.add_zero _ | exact rfl))); all_goals (first | (apply ol_gskip; exact rfl; exact rfl; (first | exact rfl | assumption); exact rfl) | (apply ol_gskipu; exact rfl; exact rfl; exact rfl) | (apply ol_gval; exact rfl; exact rfl; exact rfl; (first | exact rfl | assumption); apply stp_pur; apply s_load1; exact rfl; exact rfl; (apply RdN.own; (focus ((repeat constructor); done)); exact GetN.cons rfl GetN.nil))); all_goals (first | (apply ol_gskip; exact rfl; exact rfl; (first | exact rfl | assumption); exact rfl) | (apply ol_gskipu; exact rfl; exact rfl; exact rfl) | (apply ol_gval; exact rfl; exact rfl; exact rfl; (first | exact rfl | assumption); apply stp_pur; apply s_len; exact rfl; exact el_23)); all_goals (first | (apply ol_gskip; exact rfl; exact rfl; (first | exact rfl | assumption); exact rfl) | (apply ol_gskipu; exact rfl; exact rfl; exact rfl) | (apply ol_gval; exact rfl; exact rfl; exact rfl; (first | exact rfl | assumption); apply stp_pur; apply s_sub64; exact rfl; exact rfl; omega)); all_goals (first | (apply ol_gskip; exact rfl; exact rfl; (first | exact rfl | assumption); exact rfl) | (apply ol_gskipu; exact rfl; exact rfl; exact rfl) | (apply ol_gval; exact rfl; exact rfl; exact rfl; (first | exact rfl | assumption); apply stp_pur; first | (apply s_indexK; exact rfl; exact rfl; exact el_23; exact sz_51; (first | exact rfl); omega) | (apply s_indexO; exact rfl; exact rfl; exact el_23; exact sz_51; (first | exact rfl); omega))); all_goals (first | (apply ol_gskip; exact rfl; exact rfl; (first | exact rfl | assumption); exact rfl) | (apply ol_gskipu; exact rfl; exact rfl; exact rfl) | (apply ol_gval; exact rfl; exact rfl; exact rfl; (first | exact rfl | assumption); apply stp_pur; apply s_load1; exact rfl; exact rfl; (apply RdN.own; (focus ((repeat constructor); done)); (first | exact GetN.cons rfl GetN.nil | (apply getN_ints_app; (first | omega | (simp; omega) | (simp; done))) | (apply getN_ints; (first | omega | (simp; omega) | (simp; done))))))); all_goals (first | (apply ol_gskip; exact rfl; exact rfl; (first | exact rfl | assumption); exact rfl) | (apply ol_gskipu; exact rfl; exact rfl; exact rfl) | (apply ol_gval; exact rfl; exact rfl; exact rfl; (first | exact rfl | assumption); apply stp_cmp; apply s_neq; exact rfl; exact rfl; all_goals (intro hc21; try (exfalso; (first | exact hc21 rfl | omega))))); all_goals (first | (apply ol_gskip; exact rfl; exact rfl; (first | exact rfl | assumption); exact rfl) | (apply ol_gval; exact rfl; exact rfl; exact rfl; (first | exact rfl | assumption); apply stp_pur; first | (apply s_pick_t; exact rfl; (first | exact rfl | assumption); exact rfl) | (apply s_pick_f; exact rfl; (first | exact rfl | assumption); exact rfl))); all_goals (apply ol_val; exact rfl; apply stp_pur; first | (apply s_pick_t; exact rfl; (first | exact rfl | assumption); exact rfl) | (apply s_pick_f; exact rfl; (first | exact rfl | assumption); exact rfl)); all_goals (apply ol_as; exact rfl; exact rfl); all_goals (apply ol_nil))
      | (apply cw_cond_true; exact rfl; (first | exact rfl | assumption))
      | (apply cw_cond_false; exact rfl; (first | exact rfl | assumption))
      | apply cw_skip
      | apply cw_ret
      | apply cw_block
      | apply cw_exit
    all_goals (refine ends [] (RVal.tmp rfl RVal.nil) Pick.nil ?_; rfl)

theorem rvalid_spec {M : View} {w : World} (hM : View.le M (View.of w)) {a : Option Addr} {b o c k N : Nat} (hN : N < W ^ k) (hk : k ≤ 1000) (s : SlA M (eK .u32) 1 a (wI k N) b o) :
    FnC Tryd.prog 16 [.agg [.slice a k c].toArray] w (fun v _ => v = .bool (vd k N)) := by
  refine enterF (M := M) Tryd.func16 rfl rfl rfl rfl hM ?_
  by_cases h64 : k ≤ 64
  · by_cases h0 : k = 0
    · subst h0
      rw [vd_nil hN]
      repeat' first
        | apply cw_seq
        | (refine cw_region_id 0 ?_; (apply ol_val; exact rfl; first | (apply s_boxN; exact rfl; intro bk1) | (apply s_box1; exact rfl; exact rfl; intro bk1)); (apply ol_as; exact rfl; exact rfl); (apply ol_nil))
        | (refine cw_region_id 1 ?_; (apply ol_fa; exact rfl; exact rfl; exact fd_25_0; (first | exact Nat.zero_add _ | exact Nat.add_zero _ | exact rfl)); (apply ol_ld; exact rfl; exact rfl; exact rfl; (apply RdN.own; (focus ((repeat constructor); done)); exact GetN.cons rfl GetN.nil)); (apply ol_val; exact rfl; apply stp_pur; apply s_len; exact rfl; exact el_23); (apply ol_val; exact rfl; apply stp_cmp; apply s_leq; exact rfl; exact rfl; all_goals (intro hc6; try (exfalso; (first | exact hc6 rfl | omega)))); all_goals (apply ol_mv; exact rfl; exact rfl); all_goals (first | (apply ol_gskip; exact rfl; exact rfl; (first | exact rfl | assumption); exact rfl) | (apply ol_gval; exact rfl; exact rfl; exact rfl; (first | exact rfl | assumption); apply stp_pur; apply s_fieldAddr'; exact rfl; exact fd_25_0; (first | exact Nat.zero_add _ | exact Nat.add_zero _ | exact rfl))); all_goals (first | (apply ol_gskip; exact rfl; exact rfl; (first | exact rfl | assumption); exact rfl) | (apply ol_gval; exact rfl; exact rfl; exact rfl; (first | exact rfl | assumption); apply stp_pur; apply s_load1; exact rfl; exact rfl; (apply RdN.own; (focus ((repeat constructor); done)); exact GetN.cons rfl GetN.nil))); all_goals (first | (apply ol_gskip; exact rfl; exact rfl; (first | exact rfl | assumption); exact rfl) | (apply ol_gval; exact rfl; exact rfl; exact rfl; (first | exact rfl | assumption); apply stp_pur; apply s_len; exact rfl; exact el_23)); all_goals (first | (apply ol_gskip; exact rfl; exact rfl; (first | exact rfl | assumption); exact rfl) | (apply ol_gval; exact rfl; exact rfl; exact rfl; (first | exact rfl | assumption); apply stp_cmp; apply s_eql; exact rfl; exact rfl; all_goals (intro hc11; try (exfalso; (first | exact hc11 rfl | omega))))); all_goals (first | (apply ol_gskip; exact rfl; exact rfl; (first | exact rfl | assumption); exact rfl) | (apply ol_gval; exact rfl; exact rfl; exact rfl; (first | exact rfl | assumption); apply stp_pur; apply s_move; exact rfl)); all_goals (first | (apply ol_gskip; exact rfl; exact rfl; (first | exact rfl | assumption); exact rfl) | (apply ol_gskipu; exact rfl; exact rfl; exact rfl) | (apply ol_gval; exact rfl; exact rfl; exact rfl; (first | exact rfl | assumption); apply stp_pur; apply s_fieldAddr'; exact rfl; exact fd_25_0; (first | exact Nat.zero_add _ | exact Nat.add_zero _ | exact rfl))); all_goals (first | (apply ol_gskip; exact rfl; exact rfl; (first | exact rfl | assumption); exact rfl) | (apply ol_gskipu; exact rfl; exact rfl; exact rfl) | (apply ol_gval; exact rfl; exact rfl; exact rfl; (first | exact rfl | assumption); apply stp_pur; apply s_load1; exact rfl; exact rfl; (apply RdN.own; (focus ((repeat constructor); done)); exact GetN.cons rfl GetN.nil))); all_goals (first | (apply ol_gskip; exact rfl; exact rfl; (first | exact rfl | assumption); exact rfl) | (apply ol_gskipu; exact rfl; exact rfl; exact rfl) | (apply ol_gval; exact rfl; exact rfl; exact rfl; (first | exact rfl | assumption); apply stp_pur; apply s_fieldAddr'; exact rfl; exact fd_25_0; (first | exact Nat.zero_add _ | exact Nat.add_zero _ | exact rfl))); all_goals (first | (apply ol_gskip; exact rfl; exact rfl; (first | exact rfl | assumption); exact rfl) | (apply ol_gskipu; exact rfl; exact rfl; exact rfl) | (apply ol_gval; exact rfl; exact rfl; exact rfl; (first | exact rfl | assumption); apply stp_pur; apply s_load1; exact rfl; exact rfl; (apply RdN.own; (focus ((repeat constructor); done)); exact GetN.cons rfl GetN.nil))); all_goals (first | (apply ol_gskip; exact rfl; exact rfl; (first | exact rfl | assumption); exact rfl) | (apply ol_gskipu; exact rfl; exact rfl; exact rfl) | (apply ol_gval; exact rfl; exact rfl; exact rfl; (first | exact rfl | assumption); apply stp_pur; apply s_len; exact rfl; exact el_23)); all_goals (first | (apply ol_gskip; exact rfl; exact rfl; (first | exact rfl | assumption); exact rfl) | (apply ol_gskipu; exact rfl; exact rfl; exact rfl) | (apply ol_gval; exact rfl; exact rfl; exact rfl; (first | exact rfl | assumption); apply stp_pur; apply s_sub64; exact rfl; exact rfl; omega)); all_goals (first | (apply ol_gskip; exact rfl; exact rfl; (first | exact rfl | assumption); exact rfl) | (apply ol_gskipu; exact rfl; exact rfl; exact rfl) | (apply ol_gval; exact rfl; exact rfl; exact rfl; (first | exact rfl | assumption); apply stp_pur; first | (apply s_indexK; exact rfl; exact rfl; exact el_23; exact sz_51; (first | exact rfl); omega) | (apply s_indexO; exact rfl; exact rfl; exact el_23; exact sz_51; (first | exact rfl); omega))); all_goals (first | (apply ol_gskip; exact rfl; exact rfl; (first | exact rfl | assumption); exact rfl) | (apply ol_gskipu; exact rfl; exact rfl; exact rfl) | (apply ol_gval; exact rfl; exact rfl; exact rfl; (first | exact rfl | assumption); apply stp_pur; apply s_load1; exact rfl; exact rfl; (apply RdN.own; (focus ((repeat constructor); done)); (first | exact GetN.cons rfl GetN.nil | (apply getN_ints_app; (first | omega | (simp; omega) | (simp; done))) | (apply getN_ints; (first | omega | (simp; omega) | (simp; done))))))); all_goals (first | (apply ol_gskip; exact rfl; exact rfl; (first | exact rfl | assumption); exact rfl) | (apply ol_gskipu; exact rfl; exact rfl; exact rfl) | (apply ol_gval; exact rfl; exact rfl; exact rfl; (first | exact rfl | assumption); apply stp_cmp; apply s_neq; exact rfl; exact rfl; all_goals (intro hc21; try (exfalso; (first | exact hc21 rfl | omega))))); all_goals (first | (apply ol_gskip; exact rfl; exact rfl; (first | exact rfl | assumption); exact rfl) | (apply ol_gval; exact rfl; exact rfl; exact rfl; (first | exact rfl | assumption); apply stp_pur; first | (apply s_pick_t; exact rfl; (first | exact rfl | assumption); exact rfl) | (apply s_pick_f; exact rfl; (first | exact rfl | assumption); exact rfl))); all_goals (apply ol_val; exact rfl; apply stp_pur; first | (apply s_pick_t; exact rfl; (first | exact rfl | assumption); exact rfl) | (apply s_pick_f; exact rfl; (first | exact rfl | assumption); exact rfl)); all_goals (apply ol_as; exact rfl; exact rfl); all_goals (apply ol_nil))
        | (apply cw_cond_true; exact rfl; (first | exact rfl | assumption))
        | (apply cw_cond_false; exact rfl; (first | exact rfl | assumption))
        | apply cw_skip
        | apply cw_ret
        | apply cw_block
        | apply cw_exit
      all_goals (refine ends [] (RVal.tmp rfl RVal.nil) Pick.nil ?_; rfl)
    · have hl : k - 1 < (wI k N).length := by rw [wI_length]; omega
      have hc := s.cells (k - 1) hl
      have hq : o + ((k : Int) - 1).toNat * 1 = o + (k - 1) * 1 := by omega
      rw [← hq] at hc
      have hz := wI_get hl
      have hv := vd_pos (N := N) (k := k) hN h64 (by omega)
      generalize (wI k N)[k - 1]'hl = z at *
      by_cases hz0 : z = 0
      · rw [hv, decide_eq_false (show ¬ (N / W ^ (k - 1) % W ≠ 0) by omega)]
        repeat' first
          | apply cw_seq
          | (refine cw_region_id 0 ?_; (apply ol_val; exact rfl; first | (apply s_boxN; exact rfl; intro bk1) | (apply s_box1; exact rfl; exact rfl; intro bk1)); (apply ol_as; exact rfl; exact rfl); (apply ol_nil))
          | (refine cw_region_id 1 ?_; (apply ol_fa; exact rfl; exact rfl; exact fd_25_0; (first | exact Nat.zero_add _ | exact Nat.add_zero _ | exact rfl)); (apply ol_ld; exact rfl; exact rfl; exact rfl; (first | (apply RdN.own; (focus ((repeat constructor); done)); exact GetN.cons rfl GetN.nil) | (apply RdN.view; exact hc))); (apply ol_val; exact rfl; apply stp_pur; apply s_len; exact rfl; exact el_23); (apply ol_val; exact rfl; apply stp_cmp; apply s_leq; exact rfl; exact rfl; all_goals (intro hc6; try (exfalso; (first | exact hc6 rfl | omega)))); all_goals (apply ol_mv; exact rfl; exact rfl); all_goals (first | (apply ol_gskip; exact rfl; exact rfl; (first | exact rfl | assumption); exact rfl) | (apply ol_gval; exact rfl; exact rfl; exact rfl; (first | exact rfl | assumption); apply stp_pur; apply s_fieldAddr'; exact rfl; exact fd_25_0; (first | exact Nat.zero_add _ | exact Nat.add_zero _ | exact rfl))); all_goals (first | (apply ol_gskip; exact rfl; exact rfl; (first | exact rfl | assumption); exact rfl) | (apply ol_gval; exact rfl; exact rfl; exact rfl; (first | exact rfl | assumption); apply stp_pur; apply s_load1; exact rfl; exact rfl; (first | (apply RdN.own; (focus ((repeat constructor); done)); exact GetN.cons rfl GetN.nil) | (apply RdN.view; exact hc)))); all_goals (first | (apply ol_gskip; exact rfl; exact rfl; (first | exact rfl | assumption); exact rfl) | (apply ol_gval; exact rfl; exact rfl; exact rfl; (first | exact rfl | assumption); apply stp_pur; apply s_len; exact rfl; exact el_23)); all_goals (first | (apply ol_gskip; exact rfl; exact rfl; (first | exact rfl | assumption); exact rfl) | (apply ol_gval; exact rfl; exact rfl; exact rfl; (first | exact rfl | assumption); apply stp_cmp; apply s_eql; exact rfl; exact rfl; all_goals (intro hc11; try (exfalso; (first | exact hc11 rfl | omega))))); all_goals (first | (apply ol_gskip; exact rfl; exact rfl; (first | exact rfl | assumption); exact rfl) | (apply ol_gval; exact rfl; exact rfl; exact rfl; (first | exact rfl | assumption); apply stp_pur; apply s_move; exact rfl)); all_goals (first | (apply ol_gskip; exact rfl; exact rfl; (first | exact rfl | assumption); exact rfl) | (apply ol_gskipu; exact rfl; exact rfl; exact rfl) | (apply ol_gval; exact rfl; exact rfl; exact rfl; (first | exact rfl | assumption); apply stp_pur; apply s_fieldAddr'; exact rfl; exact fd_25_0; (first | exact Nat.zero_add _ | exact Nat.add_zero _ | exact rfl))); all_goals (first | (apply ol_gskip; exact rfl; exact rfl; (first | exact rfl | assumption); exact rfl) | (apply ol_gskipu; exact rfl; exact rfl; exact rfl) | (apply ol_gval; exact rfl; exact rfl; exact rfl; (first | exact rfl | assumption); apply stp_pur; apply s_load1; exact rfl; exact rfl; (first | (apply RdN.own; (focus ((repeat constructor); done)); exact GetN.cons rfl GetN.nil) | (apply RdN.view; exact hc)))); all_goals (first | (apply ol_gskip; exact rfl; exact rfl; (first | exact rfl | assumption); exact rfl) | (apply ol_gskipu; exact rfl; exact rfl; exact rfl) | (apply ol_gval; exact rfl; exact rfl; exact rfl; (first | exact rfl | assumption); apply stp_pur; apply s_fieldAddr'; exact rfl; exact fd_25_0; (first | exact Nat.zero_add _ | exact Nat.add_zero _ | exact rfl))); all_goals (first | (apply ol_gskip; exact rfl; exact rfl; (first | exact rfl | assumption); exact rfl) | (apply ol_gskipu; exact rfl; exact rfl; exact rfl) | (apply ol_gval; exact rfl; exact rfl; exact rfl; (first | exact rfl | assumption); apply stp_pur; apply s_load1; exact rfl; exact rfl; (first | (apply RdN.own; (focus ((repeat constructor); done)); exact GetN.cons rfl GetN.nil) | (apply RdN.view; exact hc)))); all_goals (first | (apply ol_gskip; exact rfl; exact rfl; (first | exact rfl | assumption); exact rfl) | (apply ol_gskipu; exact rfl; exact rfl; exact rfl) | (apply ol_gval; exact rfl; exact rfl; exact rfl; (first | exact rfl | assumption); apply stp_pur; apply s_len; exact rfl; exact el_23)); all_goals (first | (apply ol_gskip; exact rfl; exact rfl; (first | exact rfl | assumption); exact rfl) | (apply ol_gskipu; exact rfl; exact rfl; exact rfl) | (apply ol_gval; exact rfl; exact rfl; exact rfl; (first | exact rfl | assumption); apply stp_pur; apply s_sub64; exact rfl; exact rfl; omega)); all_goals (first | (apply ol_gskip; exact rfl; exact rfl; (first | exact rfl | assumption); exact rfl) | (apply ol_gskipu; exact rfl; exact rfl; exact rfl) | (apply ol_gval; exact rfl; exact rfl; exact rfl; (first | exact rfl | assumption); apply stp_pur; first | (apply s_indexK; exact rfl; exact rfl; exact el_23; exact sz_51; (first | exact rfl | exact s.at_ (by rw [wI_length]; omega)); omega) | (apply s_indexO; exact rfl; exact rfl; exact el_23; exact sz_51; (first | exact rfl | exact s.at_ (by rw [wI_length]; omega)); omega))); all_goals (first | (apply ol_gskip; exact rfl; exact rfl; (first | exact rfl | assumption); exact rfl) | (apply ol_gskipu; exact rfl; exact rfl; exact rfl) | (apply ol_gval; exact rfl; exact rfl; exact rfl; (first | exact rfl | assumption); apply stp_pur; apply s_load1; exact rfl; exact rfl; (first | (apply RdN.own; (focus ((repeat constructor); done)); (first | exact GetN.cons rfl GetN.nil | (apply getN_ints_app; (first | omega | (simp; omega) | (simp; done))) | (apply getN_ints; (first | omega | (simp; omega) | (simp; done))))) | (apply RdN.view; exact hc)))); all_goals (first | (apply ol_gskip; exact rfl; exact rfl; (first | exact rfl | assumption); exact rfl) | (apply ol_gskipu; exact rfl; exact rfl; exact rfl) | (apply ol_gval; exact rfl; exact rfl; exact rfl; (first | exact rfl | assumption); apply stp_cmp; apply s_neq; exact rfl; exact rfl; all_goals (intro hc21; try (exfalso; (first | exact hc21 rfl | omega))))); all_goals (first | (apply ol_gskip; exact rfl; exact rfl; (first | exact rfl | assumption); exact rfl) | (apply ol_gval; exact rfl; exact rfl; exact rfl; (first | exact rfl | assumption); apply stp_pur; first | (apply s_pick_t; exact rfl; (first | exact rfl | assumption); exact rfl) | (apply s_pick_f; exact rfl; (first | exact rfl | assumption); exact rfl))); all_goals (apply ol_val; exact rfl; apply stp_pur; first | (apply s_pick_t; exact rfl; (first | exact rfl | assumption); exact rfl) | (apply s_pick_f; exact rfl; (first | exact rfl | assumption); exact rfl)); all_goals (apply ol_as; exact rfl; exact rfl); all_goals (apply ol_nil))
          | (apply cw_cond_true; exact rfl; (first | exact rfl | assumption))
          | (apply cw_cond_false; exact rfl; (first | exact rfl | assumption))
          | apply cw_skip
          | apply cw_ret
          | apply cw_block
          | apply cw_exit
        all_goals (refine ends [] (RVal.tmp rfl RVal.nil) Pick.nil ?_; rfl)
      · rw [hv, decide_eq_true (show N / W ^ (k - 1) % W ≠ 0 by omega)]
        repeat' first
          | apply cw_seq
          | (refine cw_region_id 0 ?_; (apply ol_val; exact rfl; first | (apply s_boxN; exact rfl; intro bk1) | (apply s_box1; exact rfl; exact rfl; intro bk1)); (apply ol_as; exact rfl; exact rfl); (apply ol_nil))
          | (refine cw_region_id 1 ?_; (apply ol_fa; exact rfl; exact rfl; exact fd_25_0; (first | exact Nat.zero_add _ | exact Nat.add_zero _ | exact rfl)); (apply ol_ld; exact rfl; exact rfl; exact rfl; (first | (apply RdN.own; (focus ((repeat constructor); done)); exact GetN.cons rfl GetN.nil) | (apply RdN.view; exact hc))); (apply ol_val; exact rfl; apply stp_pur; apply s_len; exact rfl; exact el_23); (apply ol_val; exact rfl; apply stp_cmp; apply s_leq; exact rfl; exact rfl; all_goals (intro hc6; try (exfalso; (first | exact hc6 rfl | omega)))); all_goals (apply ol_mv; exact rfl; exact rfl); all_goals (first | (apply ol_gskip; exact rfl; exact rfl; (first | exact rfl | assumption); exact rfl) | (apply ol_gval; exact rfl; exact rfl; exact rfl; (first | exact rfl | assumption); apply stp_pur; apply s_fieldAddr'; exact rfl; exact fd_25_0; (first | exact Nat.zero_add _ | exact Nat.add_zero _ | exact rfl))); all_goals (first | (apply ol_gskip; exact rfl; exact rfl; (first | exact rfl | assumption); exact rfl) | (apply ol_gval; exact rfl; exact rfl; exact rfl; (first | exact rfl | assumption); apply stp_pur; apply s_load1; exact rfl; exact rfl; (first | (apply RdN.own; (focus ((repeat constructor); done)); exact GetN.cons rfl GetN.nil) | (apply RdN.view; exact hc)))); all_goals (first | (apply ol_gskip; exact rfl; exact rfl; (first | exact rfl | assumption); exact rfl) | (apply ol_gval; exact rfl; exact rfl; exact rfl; (first | exact rfl | assumption); apply stp_pur; apply s_len; exact rfl; exact el_23)); all_goals (first | (apply ol_gskip; exact rfl; exact rfl; (first | exact rfl | assumption); exact rfl) | (apply ol_gval; exact rfl; exact rfl; exact rfl; (first | exact rfl | assumption); apply stp_cmp; apply s_eql; exact rfl; exact rfl; all_goals (intro hc11; try (exfalso; (first | exact hc11 rfl | omega))))); all_goals (first | (apply ol_gskip; exact rfl; exact rfl; (first | exact rfl | assumption); exact rfl) | (apply ol_gval; exact rfl; exact rfl; exact rfl; (first | exact rfl | assumption); apply stp_pur; apply s_move; exact rfl)); all_goals (first | (apply ol_gskip; exact rfl; exact rfl; (first | exact rfl | assumption); exact rfl) | (apply ol_gskipu; exact rfl; exact rfl; exact rfl) | (apply ol_gval; exact rfl; exact rfl; exact rfl; (first | exact rfl | assumption); apply stp_pur; apply s_fieldAddr'; exact rfl; exact fd_25_0; (first | exact Nat.zero_add _ | exact Nat.add_zero _ | exact rfl))); all_goals (first | (apply ol_gskip; exact rfl; exact rfl; (first | exact rfl | assumption); exact rfl) | (apply ol_gskipu; exact rfl; exact rfl; exact rfl) | (apply ol_gval; exact rfl; exact rfl; exact rfl; (first | exact rfl | assumption); apply stp_pur; apply s_load1; exact rfl; exact rfl; (first | (apply RdN.own; (focus ((repeat constructor); done)); exact GetN.cons rfl GetN.nil) | (apply RdN.view; exact hc)))); all_goals (first | (apply ol_gskip; exact rfl; exact rfl; (first | exact rfl | assumption); exact rfl) | (apply ol_gskipu; exact rfl; exact rfl; exact rfl) | (apply ol_gval; exact rfl; exact rfl; exact rfl; (first | exact rfl | assumption); apply stp_pur; apply s_fieldAddr'; exact rfl; exact fd_25_0; (first | exact Nat.zero_add _ | exact Nat.add_zero _ | exact rfl))); all_goals (first | (apply ol_gskip; exact rfl; exact rfl; (first | exact rfl | assumption); exact rfl) | (apply ol_gskipu; exact rfl; exact rfl; exact rfl) | (apply ol_gval; exact rfl; exact rfl; exact rfl; (first | exact rfl | assumption); apply stp_pur; apply s_load1; exact rfl; exact rfl; (first | (apply RdN.own; (focus ((repeat constructor); done)); exact GetN.cons rfl GetN.nil) | (apply RdN.view; exact hc)))); all_goals (first | (apply ol_gskip; exact rfl; exact rfl; (first | exact rfl | assumption); exact rfl) | (apply ol_gskipu; exact rfl; exact rfl; exact rfl) | (apply ol_gval; exact rfl; exact rfl; exact rfl; (first | exact rfl | assumption); apply stp_pur; apply s_len; exact rfl; exact el_23)); all_goals (first | (apply ol_gskip; exact rfl; exact rfl; (first | exact rfl | assumption); exact rfl) | (apply ol_gskipu; exact rfl; exact rfl; exact rfl) | (apply ol_gval; exact rfl; exact rfl; exact rfl; (first | exact rfl | assumption); apply stp_pur; apply s_sub64; exact rfl; exact rfl; omega)); all_goals (first | (apply ol_gskip; exact rfl; exact rfl; (first | exact rfl | assumption); exact rfl) | (apply ol_gskipu; exact rfl; exact rfl; exact rfl) | (apply ol_gval; exact rfl; exact rfl; exact rfl; (first | exact rfl | assumption); apply stp_pur; first | (apply s_indexK; exact rfl; exact rfl; exact el_23; exact sz_51; (first | exact rfl | exact s.at_ (by rw [wI_length]; omega)); omega) | (apply s_indexO; exact rfl; exact rfl; exact el_23; exact sz_51; (first | exact rfl | exact s.at_ (by rw [wI_length]; omega)); omega))); all_goals (first | (apply ol_gskip; exact rfl; exact rfl; (first | exact rfl | assumption); exact rfl) | (apply ol_gskipu; exact rfl; exact rfl; exact rfl) | (apply ol_gval; exact rfl; exact rfl; exact rfl; (first | exact rfl | assumption); apply stp_pur; apply s_load1; exact rfl; exact rfl; (first | (apply RdN.own; (focus ((repeat constructor); done)); (first | exact GetN.cons rfl GetN.nil | (apply getN_ints_app; (first | omega | (simp; omega) | (simp; done))) | (apply getN_ints; (first | omega | (simp; omega) | (simp; done))))) | (apply RdN.view; exact hc)))); all_goals (first | (apply ol_gskip; exact rfl; exact rfl; (first | exact rfl | assumption); exact rfl) | (apply ol_gskipu; exact rfl; exact rfl; exact rfl) | (apply ol_gval; exact rfl; exact rfl; exact rfl; (first | exact rfl | assumption); apply stp_cmp; apply s_neq; exact rfl; exact rfl; all_goals (intro hc21; try (exfalso; (first | exact hc21 rfl | omega))))); all_goals (first | (apply ol_gskip; exact rfl; exact rfl; (first | exact rfl | assumption); exact rfl) | (apply ol_gval; exact rfl; exact rfl; exact rfl; (first | exact rfl | assumption); apply stp_pur; first | (apply s_pick_t; exact rfl; (first | exact rfl | assumption); exact rfl) | (apply s_pick_f; exact rfl; (first | exact rfl | assumption); exact rfl))); all_goals (apply ol_val; exact rfl; apply stp_pur; first | (apply s_pick_t; exact rfl; (first | exact rfl | assumption); exact rfl) | (apply s_pick_f; exact rfl; (first | exact rfl | assumption); exact rfl)); all_goals (apply ol_as; exact rfl; exact rfl); all_goals (apply ol_nil))
          | (apply cw_cond_true; exact rfl; (first | exact rfl | assumption))
          | (apply cw_cond_false; exact rfl; (first | exact rfl | assumption))
          | apply cw_skip
          | apply cw_ret
          | apply cw_block
          | apply cw_exit
        all_goals (refine ends [] (RVal.tmp rfl RVal.nil) Pick.nil ?_; rfl)
  · rw [vd_big h64]
    repeat' first
      | apply cw_seq
      | (refine cw_region_id 0 ?_; (apply ol_val; exact rfl; first | (apply s_boxN; exact rfl; intro bk1) | (apply s_box1; exact rfl; exact rfl; intro bk1)); (apply ol_as; exact rfl; exact rfl); (apply ol_nil))
      | (refine cw_region_id 1 ?_; (apply ol_fa; exact rfl; exact rfl; exact fd_25_0; (first | exact Nat.zero_add _ | exact Nat.add_zero _ | exact rfl)); (apply ol_ld; exact rfl; exact rfl; exact rfl; (apply RdN.own; (focus ((repeat constructor); done)); exact GetN.cons rfl GetN.nil)); (apply ol_val; exact rfl; apply stp_pur; apply s_len; exact rfl; exact el_23); (apply ol_val; exact rfl; apply stp_cmp; apply s_leq; exact rfl; exact rfl; all_goals (intro hc6; try (exfalso; (first | exact hc6 rfl | omega)))); all_goals (apply ol_mv; exact rfl; exact rfl); all_goals (first | (apply ol_gskip; exact rfl; exact rfl; (first | exact rfl | assumption); exact rfl) | (apply ol_gval; exact rfl; exact rfl; exact rfl; (first | exact rfl | assumption); apply stp_pur; apply s_fieldAddr'; exact rfl; exact fd_25_0; (first | exact Nat.zero_add _ | exact Nat.add_zero _ | exact rfl))); all_goals (first | (apply ol_gskip; exact rfl; exact rfl; (first | exact rfl | assumption); exact rfl) | (apply ol_gval; exact rfl; exact rfl; exact rfl; (first | exact rfl | assumption); apply stp_pur; apply s_load1; exact rfl; exact rfl; (apply RdN.own; (focus ((repeat constructor); done)); exact GetN.cons rfl GetN.nil))); all_goals (first | (apply ol_gskip; exact rfl; exact rfl; (first | exact rfl | assumption); exact rfl) | (apply ol_gval; exact rfl; exact rfl; exact rfl; (first | exact rfl | assumption); apply stp_pur; apply s_len; exact rfl; exact el_23)); all_goals (first | (apply ol_gskip; exact rfl; exact rfl; (first | exact rfl | assumption); exact rfl) | (apply ol_gval; exact rfl; exact rfl; exact rfl; (first | exact rfl | assumption); apply stp_cmp; apply s_eql; exact rfl; exact rfl; all_goals (intro hc11; try (exfalso; (first | exact hc11 rfl | omega))))); all_goals (first | (apply ol_gskip; exact rfl; exact rfl; (first | exact rfl | assumption); exact rfl) | (apply ol_gval; exact rfl; exact rfl; exact rfl; (first | exact rfl | assumption); apply stp_pur; apply s_move; exact rfl)); all_goals (first | (apply ol_gskip; exact rfl; exact rfl; (first | exact rfl | assumption); exact rfl) | (apply ol_gskipu; exact rfl; exact rfl; exact rfl) | (apply ol_gval; exact rfl; exact rfl; exact rfl; (first | exact rfl | assumption); apply stp_pur; apply s_fieldAddr'; exact rfl; exact fd_25_0; (first | exact Nat.zero_add _ | exact Nat.add_zero _ | exact rfl))); all_goals (first | (apply ol_gskip; exact rfl; exact rfl; (first | exact rfl | assumption); exact rfl) | (apply ol_gskipu; exact rfl; exact rfl; exact rfl) | (apply ol_gval; exact rfl; exact rfl; exact rfl; (first | exact rfl | assumption); apply stp_pur; apply s_load1; exact rfl; exact rfl; (apply RdN.own; (focus ((repeat constructor); done)); exact GetN.cons rfl GetN.nil))); all_goals (first | (apply ol_gskip; exact rfl; exact rfl; (first | exact rfl | assumption); exact rfl) | (apply ol_gskipu; exact rfl; exact rfl; exact rfl) | (apply ol_gval; exact rfl; exact rfl; exact rfl; (first | exact rfl | assumption); apply stp_pur; apply s_fieldAddr'; exact rfl; exact fd_25_0; (first | exact Nat.zero_add _ | exact Nat.add_zero _ | exact rfl))); all_goals (first | (apply ol_gskip; exact rfl; exact rfl; (first | exact rfl | assumption); exact rfl) | (apply ol_gskipu; exact rfl; exact rfl; exact rfl) | (apply ol_gval; exact rfl; exact rfl; exact rfl; (first | exact rfl | assumption); apply stp_pur; apply s_load1; exact rfl; exact rfl; (apply RdN.own; (focus ((repeat constructor); done)); exact GetN.cons rfl GetN.nil))); all_goals (first | (apply ol_gskip; exact rfl; exact rfl; (first | exact rfl | assumption); exact rfl) | (apply ol_gskipu; exact rfl; exact rfl; exact rfl) | (apply ol_gval; exact rfl; exact rfl; exact rfl; (first | exact rfl | assumption); apply stp_pur; apply s_len; exact rfl; exact el_23)); all_goals (first | (apply ol_gskip; exact rfl; exact rfl; (first | exact rfl | assumption); exact rfl) | (apply ol_gskipu; exact rfl; exact rfl; exact rfl) | (apply ol_gval; exact rfl; exact rfl; exact rfl; (first | exact rfl | assumption); apply stp_pur; apply s_sub64; exact rfl; exact rfl; omega)); all_goals (first | (apply ol_gskip; exact rfl; exact rfl; (first | exact rfl | assumption); exact rfl) | (apply ol_gskipu; exact rfl; exact rfl; exact rfl) | (apply ol_gval; exact rfl; exact rfl; exact rfl; (first | exact rfl | assumption); apply stp_pur; first | (apply s_indexK; exact rfl; exact rfl; exact el_23; exact sz_51; (first | exact rfl); omega) | (apply s_indexO; exact rfl; exact rfl; exact el_23; exact sz_51; (first | exact rfl); omega))); all_goals (first | (apply ol_gskip; exact rfl; exact rfl; (first | exact rfl | assumption); exact rfl) | (apply ol_gskipu; exact rfl; exact rfl; exact rfl) | (apply ol_gval; exact rfl; exact rfl; exact rfl; (first | exact rfl | assumption); apply stp_pur; apply s_load1; exact rfl; exact rfl; (apply RdN.own; (focus ((repeat constructor); done)); (first | exact GetN.cons rfl GetN.nil | (apply getN_ints_app; (first | omega | (simp; omega) | (simp; done))) | (apply getN_ints; (first | omega | (simp; omega) | (simp; done))))))); all_goals (first | (apply ol_gskip; exact rfl; exact rfl; (first | exact rfl | assumption); exact rfl) | (apply ol_gskipu; exact rfl; exact rfl; exact rfl) | (apply ol_gval; exact rfl; exact rfl; exact rfl; (first | exact rfl | assumption); apply stp_cmp; apply s_neq; exact rfl; exact rfl; all_goals (intro hc21; try (exfalso; (first | exact hc21 rfl | omega))))); all_goals (first | (apply ol_gskip; exact rfl; exact rfl; (first | exact rfl | assumption); exact rfl) | (apply ol_gval; exact rfl; exact rfl; exact rfl; (first | exact rfl | assumption); apply stp_pur; first | (apply s_pick_t; exact rfl; (first | exact rfl | assumption); exact rfl) | (apply s_pick_f; exact rfl; (first | exact rfl | assumption); exact rfl))); all_goals (apply ol_val; exact rfl; apply stp_pur; first | (apply s_pick_t; exact rfl; (first | exact rfl | assumption); exact rfl) | (apply s_pick_f; exact rfl; (first | exact rfl | assumption); exact rfl)); all_goals (apply ol_as; exact rfl; exact rfl); all_goals (apply ol_nil))
      | (apply cw_cond_true; exact rfl; (first | exact rfl | assumption))
      | (apply cw_cond_false; exact rfl; (first | exact rfl | assumption))
      | apply cw_skip
      | apply cw_ret
      | apply cw_block
      | apply cw_exit
    all_goals (refine ends [] (RVal.tmp rfl RVal.nil) Pick.nil ?_; rfl)

theorem rtrim_spec {M : View} {w : World} (hM : View.le M (View.of w)) {a : Option Addr} {b o c k N : Nat} (hN : N < W ^ k) (hk : k ≤ 1000000) (hkc : k ≤ c) (s : SlA M (eK .u32) 1 a (wI k N) b o) :
    FnC Tryd.prog 48 [.slice a k c] w (fun v _ => v = .slice a (nd W N) c) := by
  refine enterF (M := M) Tryd.func48 rfl rfl rfl rfl hM ?_
  repeat' first
    | apply cw_seq
    | (refine cw_region_id 0 ?_; (apply ol_as; exact rfl; exact rfl); (apply ol_nil))
    | (apply cw_cond_true; exact rfl; (first | exact rfl | assumption))
    | (apply cw_cond_false; exact rfl; (first | exact rfl | assumption))
    | apply cw_skip
    | apply cw_ret
    | apply cw_block
    | apply cw_exit
  refine cw_loopK (σ := Nat) [] (by (repeat (first | exact Keep.nil | (apply Keep.cons; exact rfl)))) (fun j => [(0, .slice a j c)]) (fun _ => M) (fun _ => []) (fun j => j ≤ k ∧ N < W ^ j) (fun j => j) k (by (repeat (first | exact trivial | refine And.intro rfl ?_))) (View.le.refl _) (by (repeat (first | exact Pick.nil | (apply Pick.cons; (focus ((repeat (first | exact Spl.here | apply Spl.there)); done))) | exact Pick.refl))) ⟨Nat.le_refl _, hN⟩ ?_
  rintro j ⟨hj, hNj⟩
  by_cases h0 : j = 0
  · subst h0
    have hn : nd W N = 0 := nd_of_zero hNj
    repeat' first
      | apply cw_seq
      | (refine cw_region_id 1 ?_; (apply ol_mv; exact rfl; exact rfl); (apply ol_val; exact rfl; apply stp_pur; apply s_len; exact rfl; exact el_23); (apply ol_val; exact rfl; apply stp_cmp; apply s_gtr; exact rfl; exact rfl; all_goals (intro hc5; try (exfalso; (first | exact hc5 rfl | omega)))); all_goals (apply ol_mv; exact rfl; exact rfl); all_goals (first | (apply ol_gskip; exact rfl; exact rfl; (first | exact rfl | assumption); exact rfl) | (apply ol_gval; exact rfl; exact rfl; exact rfl; (first | exact rfl | assumption); apply stp_pur; apply s_move; exact rfl)); all_goals (first | (apply ol_gskip; exact rfl; exact rfl; (first | exact rfl | assumption); exact rfl) | (apply ol_gval; exact rfl; exact rfl; exact rfl; (first | exact rfl | assumption); apply stp_pur; apply s_move; exact rfl)); all_goals (first | (apply ol_gskip; exact rfl; exact rfl; (first | exact rfl | assumption); exact rfl) | (apply ol_gval; exact rfl; exact rfl; exact rfl; (first | exact rfl | assumption); apply stp_pur; apply s_len; exact rfl; exact el_23)); all_goals (first | (apply ol_gskip; exact rfl; exact rfl; (first | exact rfl | assumption); exact rfl) | (apply ol_gval; exact rfl; exact rfl; exact rfl; (first | exact rfl | assumption); apply stp_pur; apply s_sub64; exact rfl; exact rfl; omega)); all_goals (first | (apply ol_gskip; exact rfl; exact rfl; (first | exact rfl | assumption); exact rfl) | (apply ol_gval; exact rfl; exact rfl; exact rfl; (first | exact rfl | assumption); apply stp_pur; first | (apply s_indexK; exact rfl; exact rfl; exact el_23; exact sz_51; (first | exact rfl); omega) | (apply s_indexO; exact rfl; exact rfl; exact el_23; exact sz_51; (first | exact rfl); omega))); all_goals (first | (apply ol_gskip; exact rfl; exact rfl; (first | exact rfl | assumption); exact rfl) | (apply ol_gval; exact rfl; exact rfl; exact rfl; (first | exact rfl | assumption); apply stp_pur; apply s_load1; exact rfl; exact rfl; (apply RdN.own; (focus ((repeat constructor); done)); (first | exact GetN.cons rfl GetN.nil | (apply getN_ints_app; (first | omega | (simp; omega) | (simp; done))) | (apply getN_ints; (first | omega | (simp; omega) | (simp; done))))))); all_goals (first | (apply ol_gskip; exact rfl; exact rfl; (first | exact rfl | assumption); exact rfl) | (apply ol_gval; exact rfl; exact rfl; exact rfl; (first | exact rfl | assumption); apply stp_cmp; apply s_eql; exact rfl; exact rfl; all_goals (intro hc13; try (exfalso; (first | exact hc13 rfl | omega))))); all_goals (apply ol_val; exact rfl; apply stp_pur; first | (apply s_pick_t; exact rfl; (first | exact rfl | assumption); exact rfl) | (apply s_pick_f; exact rfl; (first | exact rfl | assumption); exact rfl)); all_goals (apply ol_nil))
      | (refine cw_region_id 2 ?_; (apply ol_mv; exact rfl; exact rfl); (apply ol_mv; exact rfl; exact rfl); (apply ol_val; exact rfl; apply stp_pur; apply s_len; exact rfl; exact el_23); (apply ol_val; exact rfl; apply stp_pur; apply s_sub64; exact rfl; exact rfl; omega); (apply ol_val; exact rfl; apply stp_pur; apply s_slice; exact rfl; exact el_23; exact sz_51; exact rfl; exact Exists.intro _ rfl; exact rfl; (intro h; first | exact rfl | cases h); (first | omega | (simp; omega) | (simp; done)); (first | omega | (simp; omega) | (simp; done)); (first | omega | (simp; omega) | (simp; done))); (apply ol_as; exact rfl; exact rfl); (apply ol_nil))
      | (refine cw_region_id 3 ?_; (apply ol_mv; exact rfl; exact rfl); (apply ol_as; exact rfl; exact rfl); (apply ol_nil))
      | (apply cw_cond_true; exact rfl; (first | exact rfl | assumption))
      | (apply cw_cond_false; exact rfl; (first | exact rfl | assumption))
      | apply cw_skip
      | apply cw_ret
      | apply cw_block
      | apply cw_exit
    refine ends [] (RVal.tmp rfl RVal.nil) Pick.nil ?_
    rw [hn]; rfl
  · have hl : j - 1 < (wI k N).length := by rw [wI_length]; omega
    have hc := s.cells (j - 1) hl
    have hq : o + ((j : Int) - 1).toNat * 1 = o + (j - 1) * 1 := by omega
    rw [← hq] at hc
    have hz := wI_get hl
    generalize (wI k N)[j - 1]'hl = z at *
    by_cases hz0 : z = 0
    · have hlt : N < W ^ (j - 1) := lt_of_top (by omega) hNj (by omega)
      repeat' first
        | apply cw_seq
        | (refine cw_region_id 1 ?_; (apply ol_mv; exact rfl; exact rfl); (apply ol_val; exact rfl; apply stp_pur; apply s_len; exact rfl; exact el_23); (apply ol_val; exact rfl; apply stp_cmp; apply s_gtr; exact rfl; exact rfl; all_goals (intro hc5; try (exfalso; (first | exact hc5 rfl | omega)))); all_goals (apply ol_mv; exact rfl; exact rfl); all_goals (first | (apply ol_gskip; exact rfl; exact rfl; (first | exact rfl | assumption); exact rfl) | (apply ol_gval; exact rfl; exact rfl; exact rfl; (first | exact rfl | assumption); apply stp_pur; apply s_move; exact rfl)); all_goals (first | (apply ol_gskip; exact rfl; exact rfl; (first | exact rfl | assumption); exact rfl) | (apply ol_gval; exact rfl; exact rfl; exact rfl; (first | exact rfl | assumption); apply stp_pur; apply s_move; exact rfl)); all_goals (first | (apply ol_gskip; exact rfl; exact rfl; (first | exact rfl | assumption); exact rfl) | (apply ol_gval; exact rfl; exact rfl; exact rfl; (first | exact rfl | assumption); apply stp_pur; apply s_len; exact rfl; exact el_23)); all_goals (first | (apply ol_gskip; exact rfl; exact rfl; (first | exact rfl | assumption); exact rfl) | (apply ol_gval; exact rfl; exact rfl; exact rfl; (first | exact rfl | assumption); apply stp_pur; apply s_sub64; exact rfl; exact rfl; omega)); all_goals (first | (apply ol_gskip; exact rfl; exact rfl; (first | exact rfl | assumption); exact rfl) | (apply ol_gval; exact rfl; exact rfl; exact rfl; (first | exact rfl | assumption); apply stp_pur; first | (apply s_indexK; exact rfl; exact rfl; exact el_23; exact sz_51; (first | exact rfl | exact s.at_ (by rw [wI_length]; omega)); omega) | (apply s_indexO; exact rfl; exact rfl; exact el_23; exact sz_51; (first | exact rfl | exact s.at_ (by rw [wI_length]; omega)); omega))); all_goals (first | (apply ol_gskip; exact rfl; exact rfl; (first | exact rfl | assumption); exact rfl) | (apply ol_gval; exact rfl; exact rfl; exact rfl; (first | exact rfl | assumption); apply stp_pur; apply s_load1; exact rfl; exact rfl; (first | (apply RdN.own; (focus ((repeat constructor); done)); (first | exact GetN.cons rfl GetN.nil | (apply getN_ints_app; (first | omega | (simp; omega) | (simp; done))) | (apply getN_ints; (first | omega | (simp; omega) | (simp; done))))) | (apply RdN.view; exact hc)))); all_goals (first | (apply ol_gskip; exact rfl; exact rfl; (first | exact rfl | assumption); exact rfl) | (apply ol_gval; exact rfl; exact rfl; exact rfl; (first | exact rfl | assumption); apply stp_cmp; apply s_eql; exact rfl; exact rfl; all_goals (intro hc13; try (exfalso; (first | exact hc13 rfl | omega))))); all_goals (apply ol_val; exact rfl; apply stp_pur; first | (apply s_pick_t; exact rfl; (first | exact rfl | assumption); exact rfl) | (apply s_pick_f; exact rfl; (first | exact rfl | assumption); exact rfl)); all_goals (apply ol_nil))
        | (refine cw_region_id 2 ?_; (apply ol_mv; exact rfl; exact rfl); (apply ol_mv; exact rfl; exact rfl); (apply ol_val; exact rfl; apply stp_pur; apply s_len; exact rfl; exact el_23); (apply ol_val; exact rfl; apply stp_pur; apply s_sub64; exact rfl; exact rfl; omega); (apply ol_val; exact rfl; apply stp_pur; apply s_slice; exact rfl; exact el_23; exact sz_51; exact rfl; (first | exact ⟨.i64, congrArg (fun z => some (Value.int .i64 z)) (show _ = ((j - 1 : Nat) : Int) by omega)⟩ | exact Exists.intro _ rfl); exact rfl; (intro h; first | exact rfl | cases h); (first | omega | (simp; omega) | (simp; done)); (first | omega | (simp; omega) | (simp; done)); (first | omega | (simp; omega) | (simp; done))); (apply ol_as; exact rfl; exact rfl); (apply ol_nil))
        | (refine cw_region_id 3 ?_; (apply ol_mv; exact rfl; exact rfl); (apply ol_as; exact rfl; exact rfl); (apply ol_nil))
        | (apply cw_cond_true; exact rfl; (first | exact rfl | assumption))
        | (apply cw_cond_false; exact rfl; (first | exact rfl | assumption))
        | apply cw_skip
        | apply cw_ret
        | apply cw_block
        | apply cw_exit
      rw [slicedA_zero]
      refine ⟨j - 1, ⟨by (repeat (first | exact trivial | refine And.intro rfl ?_)), View.le.refl _, by (repeat (first | exact Pick.nil | (apply Pick.cons; (focus ((repeat (first | exact Spl.here | apply Spl.there)); done))) | exact Pick.refl)), ⟨by omega, hlt⟩, by omega⟩⟩
    · have hn : nd W N = j := nd_eq (by decide) hNj (fun _ => by omega)
      repeat' first
        | apply cw_seq
        | (refine cw_region_id 1 ?_; (apply ol_mv; exact rfl; exact rfl); (apply ol_val; exact rfl; apply stp_pur; apply s_len; exact rfl; exact el_23); (apply ol_val; exact rfl; apply stp_cmp; apply s_gtr; exact rfl; exact rfl; all_goals (intro hc5; try (exfalso; (first | exact hc5 rfl | omega)))); all_goals (apply ol_mv; exact rfl; exact rfl); all_goals (first | (apply ol_gskip; exact rfl; exact rfl; (first | exact rfl | assumption); exact rfl) | (apply ol_gval; exact rfl; exact rfl; exact rfl; (first | exact rfl | assumption); apply stp_pur; apply s_move; exact rfl)); all_goals (first | (apply ol_gskip; exact rfl; exact rfl; (first | exact rfl | assumption); exact rfl) | (apply ol_gval; exact rfl; exact rfl; exact rfl; (first | exact rfl | assumption); apply stp_pur; apply s_move; exact rfl)); all_goals (first | (apply ol_gskip; exact rfl; exact rfl; (first | exact rfl | assumption); exact rfl) | (apply ol_gval; exact rfl; exact rfl; exact rfl; (first | exact rfl | assumption); apply stp_pur; apply s_len; exact rfl; exact el_23)); all_goals (first | (apply ol_gskip; exact rfl; exact rfl; (first | exact rfl | assumption); exact rfl) | (apply ol_gval; exact rfl; exact rfl; exact rfl; (first | exact rfl | assumption); apply stp_pur; apply s_sub64; exact rfl; exact rfl; omega)); all_goals (first | (apply ol_gskip; exact rfl; exact rfl; (first | exact rfl | assumption); exact rfl) | (apply ol_gval; exact rfl; exact rfl; exact rfl; (first | exact rfl | assumption); apply stp_pur; first | (apply s_indexK; exact rfl; exact rfl; exact el_23; exact sz_51; (first | exact rfl | exact s.at_ (by rw [wI_length]; omega)); omega) | (apply s_indexO; exact rfl; exact rfl; exact el_23; exact sz_51; (first | exact rfl | exact s.at_ (by rw [wI_length]; omega)); omega))); all_goals (first | (apply ol_gskip; exact rfl; exact rfl; (first | exact rfl | assumption); exact rfl) | (apply ol_gval; exact rfl; exact rfl; exact rfl; (first | exact rfl | assumption); apply stp_pur; apply s_load1; exact rfl; exact rfl; (first | (apply RdN.own; (focus ((repeat constructor); done)); (first | exact GetN.cons rfl GetN.nil | (apply getN_ints_app; (first | omega | (simp; omega) | (simp; done))) | (apply getN_ints; (first | omega | (simp; omega) | (simp; done))))) | (apply RdN.view; exact hc)))); all_goals (first | (apply ol_gskip; exact rfl; exact rfl; (first | exact rfl | assumption); exact rfl) | (apply ol_gval; exact rfl; exact rfl; exact rfl; (first | exact rfl | assumption); apply stp_cmp; apply s_eql; exact rfl; exact rfl; all_goals (intro hc13; try (exfalso; (first | exact hc13 rfl | omega))))); all_goals (apply ol_val; exact rfl; apply stp_pur; first | (apply s_pick_t; exact rfl; (first | exact rfl | assumption); exact rfl) | (apply s_pick_f; exact rfl; (first | exact rfl | assumption); exact rfl)); all_goals (apply ol_nil))
        | (refine cw_region_id 2 ?_; (apply ol_mv; exact rfl; exact rfl); (apply ol_mv; exact rfl; exact rfl); (apply ol_val; exact rfl; apply stp_pur; apply s_len; exact rfl; exact el_23); (apply ol_val; exact rfl; apply stp_pur; apply s_sub64; exact rfl; exact rfl; omega); (apply ol_val; exact rfl; apply stp_pur; apply s_slice; exact rfl; exact el_23; exact sz_51; exact rfl; exact Exists.intro _ rfl; exact rfl; (intro h; first | exact rfl | cases h); (first | omega | (simp; omega) | (simp; done)); (first | omega | (simp; omega) | (simp; done)); (first | omega | (simp; omega) | (simp; done))); (apply ol_as; exact rfl; exact rfl); (apply ol_nil))
        | (refine cw_region_id 3 ?_; (apply ol_mv; exact rfl; exact rfl); (apply ol_as; exact rfl; exact rfl); (apply ol_nil))
        | (apply cw_cond_true; exact rfl; (first | exact rfl | assumption))
        | (apply cw_cond_false; exact rfl; (first | exact rfl | assumption))
        | apply cw_skip
        | apply cw_ret
        | apply cw_block
        | apply cw_exit
      refine ends [] (RVal.tmp rfl RVal.nil) Pick.nil ?_
      rw [hn]; rfl
end Go.Proofs.YtjaeblkgjbncmaaDoor

/-
  Small functions on words and digits.
-/
namespace Go.Proofs.YtjaeblkgjbncmaaDoor
set_option maxRecDepth 20000
set_option linter.unusedSimpArgs false
set_option linter.unusedVariables false
open Go Go.Fw
/-- Words in a row of our own. -/
def WR (k N : Nat) (v : Value) (new : List OB) : Prop :=
  ∃ r A cap sp, v = .slice (base r A) k cap ∧ new = [⟨r, flat (eK .u32) (wI k N) ++ sp, 51⟩] ∧ SO r k cap (flat (eK .u32) (wI k N)) sp 1
theorem SO.empW {r : Option Nat} {k N cap : Nat} {sp : List Value} (h : SO r k cap (flat (eK .u32) (wI k N)) sp 1) (hr : r = none) : wI k N = [] := by
  have := h.empty hr
  subst this
  exact wI_zero N
theorem SlA.ownW {w : World} {r : Option Nat} {A : Option Addr} {k N cap : Nat} {sp sp' : List Value} {T : TypeId} (hok : OB.ok ⟨r, flat (eK .u32) (wI k N) ++ sp, T⟩ w) (h : SO r k cap (flat (eK .u32) (wI k N)) sp' 1) : SlA (View.of w) (eK .u32) 1 (base r A) (wI k N) (r.getD 0) 0 :=
  SlA.own (eK_length .u32) hok (fun hr => SO.empW h hr)
/-- What the reading of a digit says, for a base. -/
def dv (b : Nat) (c : Int) : Nat := if valc c < b then valc c else 0
end Go.Proofs.YtjaeblkgjbncmaaDoor
namespace Go.Proofs.YtjaeblkgjbncmaaDoor
set_option maxRecDepth 20000
set_option linter.unusedSimpArgs false
set_option linter.unusedVariables false
open Go Go.Fw
attribute [local irreducible] CW OL OD FX Stp FnC FnV Ret wI vd strOf
set_option maxHeartbeats 800000

theorem value_spec (w : World) {c : Int} (hc : 0 ≤ c ∧ c ≤ 255) : FnC Tryd.prog 39 [.int .u8 c] w (fun v _ => v = .int .u64 (valc c : Nat)) := by
  refine enterF (M := View.of w) Tryd.func39 rfl rfl rfl rfl (View.le.refl _) ?_
  by_cases h1 : 48 ≤ c ∧ c ≤ 57
  ·
    repeat' first
      | apply cw_seq
      | (refine cw_region_id 0 ?_; (apply ol_as; exact rfl; exact rfl); (apply ol_nil))
      | (refine cw_region_id 1 ?_; (apply ol_mv; exact rfl; exact rfl); (apply ol_val; exact rfl; apply stp_cmp; apply s_geq; exact rfl; exact rfl; all_goals (intro hc5; try (exfalso; (first | exact hc5 rfl | omega)))); all_goals (apply ol_mv; exact rfl; exact rfl); all_goals (first | (apply ol_gskip; exact rfl; exact rfl; (first | exact rfl | assumption); exact rfl) | (apply ol_gval; exact rfl; exact rfl; exact rfl; (first | exact rfl | assumption); apply stp_pur; apply s_move; exact rfl)); all_goals (first | (apply ol_gskip; exact rfl; exact rfl; (first | exact rfl | assumption); exact rfl) | (apply ol_gval; exact rfl; exact rfl; exact rfl; (first | exact rfl | assumption); apply stp_cmp; apply s_leq; exact rfl; exact rfl; all_goals (intro hc8; try (exfalso; (first | exact hc8 rfl | omega))))); all_goals (apply ol_val; exact rfl; apply stp_pur; first | (apply s_pick_t; exact rfl; (first | exact rfl | assumption); exact rfl) | (apply s_pick_f; exact rfl; (first | exact rfl | assumption); exact rfl)); all_goals (apply ol_as; exact rfl; exact rfl); all_goals (apply ol_nil))
      | (refine cw_region_id 2 ?_; (apply ol_mv; exact rfl; exact rfl); (apply ol_val; exact rfl; apply stp_pur; first | (apply s_subF; exact rfl; exact rfl; (first | (dsimp only [lowK, highK]; omega))) | (apply s_subW; exact rfl; exact rfl)); (apply ol_val; exact rfl; apply stp_pur; first | (apply s_conv; exact rfl; exact rfl; exact ti_41; (focus (apply wrap_u64; omega))) | (apply s_conv; exact rfl; exact rfl; exact ti_41; exact rfl)); (apply ol_as; exact rfl; exact rfl); (apply ol_nil))
      | (refine cw_region_id 3 ?_; (apply ol_mv; exact rfl; exact rfl); (apply ol_val; exact rfl; apply stp_cmp; apply s_geq; exact rfl; exact rfl; all_goals (intro hc15; try (exfalso; (first | exact hc15 rfl | omega)))); all_goals (apply ol_mv; exact rfl; exact rfl); all_goals (first | (apply ol_gskip; exact rfl; exact rfl; (first | exact rfl | assumption); exact rfl) | (apply ol_gval; exact rfl; exact rfl; exact rfl; (first | exact rfl | assumption); apply stp_pur; apply s_move; exact rfl)); all_goals (first | (apply ol_gskip; exact rfl; exact rfl; (first | exact rfl | assumption); exact rfl) | (apply ol_gval; exact rfl; exact rfl; exact rfl; (first | exact rfl | assumption); apply stp_cmp; apply s_leq; exact rfl; exact rfl; all_goals (intro hc18; try (exfalso; (first | exact hc18 rfl | omega))))); all_goals (apply ol_val; exact rfl; apply stp_pur; first | (apply s_pick_t; exact rfl; (first | exact rfl | assumption); exact rfl) | (apply s_pick_f; exact rfl; (first | exact rfl | assumption); exact rfl)); all_goals (apply ol_as; exact rfl; exact rfl); all_goals (apply ol_nil))
      | (refine cw_region_id 4 ?_; (apply ol_mv; exact rfl; exact rfl); (apply ol_val; exact rfl; apply stp_pur; first | (apply s_subF; exact rfl; exact rfl; (first | (dsimp only [lowK, highK]; omega))) | (apply s_subW; exact rfl; exact rfl)); (apply ol_val; exact rfl; apply stp_pur; first | (apply s_conv; exact rfl; exact rfl; exact ti_41; (focus (apply wrap_u64; omega))) | (apply s_conv; exact rfl; exact rfl; exact ti_41; exact rfl)); (apply ol_val; exact rfl; apply stp_pur; first | (apply s_addF; exact rfl; exact rfl; (first | (dsimp only [lowK, highK]; omega))) | (apply s_addW; exact rfl; exact rfl)); (apply ol_as; exact rfl; exact rfl); (apply ol_nil))
      | (refine cw_region_id 5 ?_; (apply ol_as; exact rfl; exact rfl); (apply ol_nil))
      | (apply cw_cond_true; exact rfl; (first | exact rfl | assumption))
      | (apply cw_cond_false; exact rfl; (first | exact rfl | assumption))
      | apply cw_skip
      | apply cw_ret
      | apply cw_block
      | apply cw_exit
    refine ends [] (RVal.tmp rfl RVal.nil) Pick.nil ?_
    refine congrArg (Value.int .u64) ?_
    unfold valc; rw [if_pos h1]; omega
  · by_cases h2 : 97 ≤ c ∧ c ≤ 102
    ·
      repeat' first
        | apply cw_seq
        | (refine cw_region_id 0 ?_; (apply ol_as; exact rfl; exact rfl); (apply ol_nil))
        | (refine cw_region_id 1 ?_; (apply ol_mv; exact rfl; exact rfl); (apply ol_val; exact rfl; apply stp_cmp; apply s_geq; exact rfl; exact rfl; all_goals (intro hc5; try (exfalso; (first | exact hc5 rfl | omega)))); all_goals (apply ol_mv; exact rfl; exact rfl); all_goals (first | (apply ol_gskip; exact rfl; exact rfl; (first | exact rfl | assumption); exact rfl) | (apply ol_gval; exact rfl; exact rfl; exact rfl; (first | exact rfl | assumption); apply stp_pur; apply s_move; exact rfl)); all_goals (first | (apply ol_gskip; exact rfl; exact rfl; (first | exact rfl | assumption); exact rfl) | (apply ol_gval; exact rfl; exact rfl; exact rfl; (first | exact rfl | assumption); apply stp_cmp; apply s_leq; exact rfl; exact rfl; all_goals (intro hc8; try (exfalso; (first | exact hc8 rfl | omega))))); all_goals (apply ol_val; exact rfl; apply stp_pur; first | (apply s_pick_t; exact rfl; (first | exact rfl | assumption); exact rfl) | (apply s_pick_f; exact rfl; (first | exact rfl | assumption); exact rfl)); all_goals (apply ol_as; exact rfl; exact rfl); all_goals (apply ol_nil))
        | (refine cw_region_id 2 ?_; (apply ol_mv; exact rfl; exact rfl); (apply ol_val; exact rfl; apply stp_pur; first | (apply s_subF; exact rfl; exact rfl; (first | (dsimp only [lowK, highK]; omega))) | (apply s_subW; exact rfl; exact rfl)); (apply ol_val; exact rfl; apply stp_pur; first | (apply s_conv; exact rfl; exact rfl; exact ti_41; (focus (apply wrap_u64; omega))) | (apply s_conv; exact rfl; exact rfl; exact ti_41; exact rfl)); (apply ol_as; exact rfl; exact rfl); (apply ol_nil))
        | (refine cw_region_id 3 ?_; (apply ol_mv; exact rfl; exact rfl); (apply ol_val; exact rfl; apply stp_cmp; apply s_geq; exact rfl; exact rfl; all_goals (intro hc15; try (exfalso; (first | exact hc15 rfl | omega)))); all_goals (apply ol_mv; exact rfl; exact rfl); all_goals (first | (apply ol_gskip; exact rfl; exact rfl; (first | exact rfl | assumption); exact rfl) | (apply ol_gval; exact rfl; exact rfl; exact rfl; (first | exact rfl | assumption); apply stp_pur; apply s_move; exact rfl)); all_goals (first | (apply ol_gskip; exact rfl; exact rfl; (first | exact rfl | assumption); exact rfl) | (apply ol_gval; exact rfl; exact rfl; exact rfl; (first | exact rfl | assumption); apply stp_cmp; apply s_leq; exact rfl; exact rfl; all_goals (intro hc18; try (exfalso; (first | exact hc18 rfl | omega))))); all_goals (apply ol_val; exact rfl; apply stp_pur; first | (apply s_pick_t; exact rfl; (first | exact rfl | assumption); exact rfl) | (apply s_pick_f; exact rfl; (first | exact rfl | assumption); exact rfl)); all_goals (apply ol_as; exact rfl; exact rfl); all_goals (apply ol_nil))
        | (refine cw_region_id 4 ?_; (apply ol_mv; exact rfl; exact rfl); (apply ol_val; exact rfl; apply stp_pur; first | (apply s_subF; exact rfl; exact rfl; (first | (dsimp only [lowK, highK]; omega))) | (apply s_subW; exact rfl; exact rfl)); (apply ol_val; exact rfl; apply stp_pur; first | (apply s_conv; exact rfl; exact rfl; exact ti_41; (focus (apply wrap_u64; omega))) | (apply s_conv; exact rfl; exact rfl; exact ti_41; exact rfl)); (apply ol_val; exact rfl; apply stp_pur; first | (apply s_addF; exact rfl; exact rfl; (first | (dsimp only [lowK, highK]; omega))) | (apply s_addW; exact rfl; exact rfl)); (apply ol_as; exact rfl; exact rfl); (apply ol_nil))
        | (refine cw_region_id 5 ?_; (apply ol_as; exact rfl; exact rfl); (apply ol_nil))
        | (apply cw_cond_true; exact rfl; (first | exact rfl | assumption))
        | (apply cw_cond_false; exact rfl; (first | exact rfl | assumption))
        | apply cw_skip
        | apply cw_ret
        | apply cw_block
        | apply cw_exit
      refine ends [] (RVal.tmp rfl RVal.nil) Pick.nil ?_
      refine congrArg (Value.int .u64) ?_
      unfold valc; rw [if_neg h1, if_pos h2]; omega
    ·
      repeat' first
        | apply cw_seq
        | (refine cw_region_id 0 ?_; (apply ol_as; exact rfl; exact rfl); (apply ol_nil))
        | (refine cw_region_id 1 ?_; (apply ol_mv; exact rfl; exact rfl); (apply ol_val; exact rfl; apply stp_cmp; apply s_geq; exact rfl; exact rfl; all_goals (intro hc5; try (exfalso; (first | exact hc5 rfl | omega)))); all_goals (apply ol_mv; exact rfl; exact rfl); all_goals (first | (apply ol_gskip; exact rfl; exact rfl; (first | exact rfl | assumption); exact rfl) | (apply ol_gval; exact rfl; exact rfl; exact rfl; (first | exact rfl | assumption); apply stp_pur; apply s_move; exact rfl)); all_goals (first | (apply ol_gskip; exact rfl; exact rfl; (first | exact rfl | assumption); exact rfl) | (apply ol_gval; exact rfl; exact rfl; exact rfl; (first | exact rfl | assumption); apply stp_cmp; apply s_leq; exact rfl; exact rfl; all_goals (intro hc8; try (exfalso; (first | exact hc8 rfl | omega))))); all_goals (apply ol_val; exact rfl; apply stp_pur; first | (apply s_pick_t; exact rfl; (first | exact rfl | assumption); exact rfl) | (apply s_pick_f; exact rfl; (first | exact rfl | assumption); exact rfl)); all_goals (apply ol_as; exact rfl; exact rfl); all_goals (apply ol_nil))
        | (refine cw_region_id 2 ?_; (apply ol_mv; exact rfl; exact rfl); (apply ol_val; exact rfl; apply stp_pur; apply s_subW; exact rfl; exact rfl); (apply ol_val; exact rfl; apply stp_pur; first | (apply s_conv; exact rfl; exact rfl; exact ti_41; (focus (apply wrap_u64; omega))) | (apply s_conv; exact rfl; exact rfl; exact ti_41; exact rfl)); (apply ol_as; exact rfl; exact rfl); (apply ol_nil))
        | (refine cw_region_id 3 ?_; (apply ol_mv; exact rfl; exact rfl); (apply ol_val; exact rfl; apply stp_cmp; apply s_geq; exact rfl; exact rfl; all_goals (intro hc15; try (exfalso; (first | exact hc15 rfl | omega)))); all_goals (apply ol_mv; exact rfl; exact rfl); all_goals (first | (apply ol_gskip; exact rfl; exact rfl; (first | exact rfl | assumption); exact rfl) | (apply ol_gval; exact rfl; exact rfl; exact rfl; (first | exact rfl | assumption); apply stp_pur; apply s_move; exact rfl)); all_goals (first | (apply ol_gskip; exact rfl; exact rfl; (first | exact rfl | assumption); exact rfl) | (apply ol_gval; exact rfl; exact rfl; exact rfl; (first | exact rfl | assumption); apply stp_cmp; apply s_leq; exact rfl; exact rfl; all_goals (intro hc18; try (exfalso; (first | exact hc18 rfl | omega))))); all_goals (apply ol_val; exact rfl; apply stp_pur; first | (apply s_pick_t; exact rfl; (first | exact rfl | assumption); exact rfl) | (apply s_pick_f; exact rfl; (first | exact rfl | assumption); exact rfl)); all_goals (apply ol_as; exact rfl; exact rfl); all_goals (apply ol_nil))
        | (refine cw_region_id 4 ?_; (apply ol_mv; exact rfl; exact rfl); (apply ol_val; exact rfl; apply stp_pur; apply s_subW; exact rfl; exact rfl); (apply ol_val; exact rfl; apply stp_pur; first | (apply s_conv; exact rfl; exact rfl; exact ti_41; (focus (apply wrap_u64; omega))) | (apply s_conv; exact rfl; exact rfl; exact ti_41; exact rfl)); (apply ol_val; exact rfl; apply stp_pur; apply s_addW; exact rfl; exact rfl); (apply ol_as; exact rfl; exact rfl); (apply ol_nil))
        | (refine cw_region_id 5 ?_; (apply ol_as; exact rfl; exact rfl); (apply ol_nil))
        | (apply cw_cond_true; exact rfl; (first | exact rfl | assumption))
        | (apply cw_cond_false; exact rfl; (first | exact rfl | assumption))
        | apply cw_skip
        | apply cw_ret
        | apply cw_block
        | apply cw_exit
      all_goals
        refine ends [] (RVal.tmp rfl RVal.nil) Pick.nil ?_
        refine congrArg (Value.int .u64) ?_
        unfold valc; rw [if_neg h1, if_neg h2]; rfl

theorem rvalue_spec (w : World) {b : Nat} (hb : b = 10 ∨ b = 16) {c : Int} (hc : 0 ≤ c ∧ c ≤ 255) : FnC Tryd.prog 35 [.int .u8 c, .int .u64 b] w (fun v _ => v = .tuple #[.int .u64 (dv b c : Nat), .bool (decide (valc c < b))]) := by
  refine enterF (M := View.of w) Tryd.func35 rfl rfl rfl rfl (View.le.refl _) ?_
  by_cases h1 : 48 ≤ c ∧ c ≤ 57
  · have hv : valc c = (c - 48).toNat := by unfold valc; rw [if_pos h1]
    unfold dv
    rw [decide_eq_true (show valc c < b by omega), if_pos (show valc c < b by omega), hv]
    repeat' first
      | apply cw_seq
      | (refine cw_region_id 0 ?_; (apply ol_as; exact rfl; exact rfl); (apply ol_as; exact rfl; exact rfl); (apply ol_nil))
      | (refine cw_region_id 1 ?_; (apply ol_mv; exact rfl; exact rfl); (apply ol_val; exact rfl; apply stp_cmp; apply s_geq; exact rfl; exact rfl; all_goals (intro hc7; try (exfalso; (first | exact hc7 rfl | omega)))); all_goals (apply ol_mv; exact rfl; exact rfl); all_goals (first | (apply ol_gskip; exact rfl; exact rfl; (first | exact rfl | assumption); exact rfl) | (apply ol_gval; exact rfl; exact rfl; exact rfl; (first | exact rfl | assumption); apply stp_pur; apply s_move; exact rfl)); all_goals (first | (apply ol_gskip; exact rfl; exact rfl; (first | exact rfl | assumption); exact rfl) | (apply ol_gval; exact rfl; exact rfl; exact rfl; (first | exact rfl | assumption); apply stp_cmp; apply s_leq; exact rfl; exact rfl; all_goals (intro hc10; try (exfalso; (first | exact hc10 rfl | omega))))); all_goals (apply ol_val; exact rfl; apply stp_pur; first | (apply s_pick_t; exact rfl; (first | exact rfl | assumption); exact rfl) | (apply s_pick_f; exact rfl; (first | exact rfl | assumption); exact rfl)); all_goals (apply ol_nil))
      | (refine cw_region_id 2 ?_; (apply ol_mv; exact rfl; exact rfl); (apply ol_val; exact rfl; apply stp_pur; first | (apply s_subF; exact rfl; exact rfl; (first | (dsimp only [lowK, highK]; omega))) | (apply s_subW; exact rfl; exact rfl)); (apply ol_val; exact rfl; apply stp_pur; first | (apply s_conv; exact rfl; exact rfl; exact ti_41; (focus (apply wrap_u64; omega))) | (apply s_conv; exact rfl; exact rfl; exact ti_41; exact rfl)); (apply ol_as; exact rfl; exact rfl); (apply ol_as; exact rfl; exact rfl); (apply ol_nil))
      | (refine cw_region_id 3 ?_; (apply ol_mv; exact rfl; exact rfl); (apply ol_val; exact rfl; apply stp_cmp; apply s_eql; exact rfl; exact rfl; all_goals (intro hc16; try (exfalso; (first | exact hc16 rfl | omega)))); all_goals (apply ol_mv; exact rfl; exact rfl); all_goals (first | (apply ol_gskip; exact rfl; exact rfl; (first | exact rfl | assumption); exact rfl) | (apply ol_gval; exact rfl; exact rfl; exact rfl; (first | exact rfl | assumption); apply stp_pur; apply s_move; exact rfl)); all_goals (first | (apply ol_gskip; exact rfl; exact rfl; (first | exact rfl | assumption); exact rfl) | (apply ol_gval; exact rfl; exact rfl; exact rfl; (first | exact rfl | assumption); apply stp_cmp; apply s_geq; exact rfl; exact rfl; all_goals (intro hc19; try (exfalso; (first | exact hc19 rfl | omega))))); all_goals (apply ol_val; exact rfl; apply stp_pur; first | (apply s_pick_t; exact rfl; (first | exact rfl | assumption); exact rfl) | (apply s_pick_f; exact rfl; (first | exact rfl | assumption); exact rfl)); all_goals (apply ol_mv; exact rfl; exact rfl); all_goals (first | (apply ol_gskip; exact rfl; exact rfl; (first | exact rfl | assumption); exact rfl) | (apply ol_gval; exact rfl; exact rfl; exact rfl; (first | exact rfl | assumption); apply stp_pur; apply s_move; exact rfl)); all_goals (first | (apply ol_gskip; exact rfl; exact rfl; (first | exact rfl | assumption); exact rfl) | (apply ol_gval; exact rfl; exact rfl; exact rfl; (first | exact rfl | assumption); apply stp_cmp; apply s_leq; exact rfl; exact rfl; all_goals (intro hc23; try (exfalso; (first | exact hc23 rfl | omega))))); all_goals (apply ol_val; exact rfl; apply stp_pur; first | (apply s_pick_t; exact rfl; (first | exact rfl | assumption); exact rfl) | (apply s_pick_f; exact rfl; (first | exact rfl | assumption); exact rfl)); all_goals (apply ol_nil))
      | (refine cw_region_id 4 ?_; (apply ol_mv; exact rfl; exact rfl); (apply ol_val; exact rfl; apply stp_pur; first | (apply s_subF; exact rfl; exact rfl; (first | (dsimp only [lowK, highK]; omega))) | (apply s_subW; exact rfl; exact rfl)); (apply ol_val; exact rfl; apply stp_pur; first | (apply s_conv; exact rfl; exact rfl; exact ti_41; (focus (apply wrap_u64; omega))) | (apply s_conv; exact rfl; exact rfl; exact ti_41; exact rfl)); (apply ol_val; exact rfl; apply stp_pur; first | (apply s_addF; exact rfl; exact rfl; (first | (dsimp only [lowK, highK]; omega))) | (apply s_addW; exact rfl; exact rfl)); (apply ol_as; exact rfl; exact rfl); (apply ol_as; exact rfl; exact rfl); (apply ol_nil))
      | (refine cw_region_id 5 ?_; (apply ol_as; exact rfl; exact rfl); (apply ol_as; exact rfl; exact rfl); (apply ol_nil))
      | (apply cw_cond_true; exact rfl; (first | exact rfl | assumption))
      | (apply cw_cond_false; exact rfl; (first | exact rfl | assumption))
      | apply cw_skip
      | apply cw_ret
      | apply cw_block
      | apply cw_exit
    refine ends [] (RVal.tmp rfl (RVal.tmp rfl RVal.nil)) Pick.nil ?_
    have e : (((c - 48).toNat : Nat) : Int) = c - 48 := by omega
    rw [e]; rfl
  · by_cases h2 : 97 ≤ c ∧ c ≤ 102
    · have hv : valc c = (c - 87).toNat := by unfold valc; rw [if_neg h1, if_pos h2]
      rcases hb with rfl | rfl
      · unfold dv
        rw [decide_eq_false (show ¬ valc c < 10 by omega), if_neg (show ¬ valc c < 10 by omega)]
        repeat' first
          | apply cw_seq
          | (refine cw_region_id 0 ?_; (apply ol_as; exact rfl; exact rfl); (apply ol_as; exact rfl; exact rfl); (apply ol_nil))
          | (refine cw_region_id 1 ?_; (apply ol_mv; exact rfl; exact rfl); (apply ol_val; exact rfl; apply stp_cmp; apply s_geq; exact rfl; exact rfl; all_goals (intro hc7; try (exfalso; (first | exact hc7 rfl | omega)))); all_goals (apply ol_mv; exact rfl; exact rfl); all_goals (first | (apply ol_gskip; exact rfl; exact rfl; (first | exact rfl | assumption); exact rfl) | (apply ol_gval; exact rfl; exact rfl; exact rfl; (first | exact rfl | assumption); apply stp_pur; apply s_move; exact rfl)); all_goals (first | (apply ol_gskip; exact rfl; exact rfl; (first | exact rfl | assumption); exact rfl) | (apply ol_gval; exact rfl; exact rfl; exact rfl; (first | exact rfl | assumption); apply stp_cmp; apply s_leq; exact rfl; exact rfl; all_goals (intro hc10; try (exfalso; (first | exact hc10 rfl | omega))))); all_goals (apply ol_val; exact rfl; apply stp_pur; first | (apply s_pick_t; exact rfl; (first | exact rfl | assumption); exact rfl) | (apply s_pick_f; exact rfl; (first | exact rfl | assumption); exact rfl)); all_goals (apply ol_nil))
          | (refine cw_region_id 2 ?_; (apply ol_mv; exact rfl; exact rfl); (apply ol_val; exact rfl; apply stp_pur; apply s_subW; exact rfl; exact rfl); (apply ol_val; exact rfl; apply stp_pur; first | (apply s_conv; exact rfl; exact rfl; exact ti_41; (focus (apply wrap_u64; omega))) | (apply s_conv; exact rfl; exact rfl; exact ti_41; exact rfl)); (apply ol_as; exact rfl; exact rfl); (apply ol_as; exact rfl; exact rfl); (apply ol_nil))
          | (refine cw_region_id 3 ?_; (apply ol_mv; exact rfl; exact rfl); (apply ol_val; exact rfl; apply stp_cmp; apply s_eql; exact rfl; exact rfl; all_goals (intro hc16; try (exfalso; (first | exact hc16 rfl | omega)))); all_goals (apply ol_mv; exact rfl; exact rfl); all_goals (first | (apply ol_gskip; exact rfl; exact rfl; (first | exact rfl | assumption); exact rfl) | (apply ol_gval; exact rfl; exact rfl; exact rfl; (first | exact rfl | assumption); apply stp_pur; apply s_move; exact rfl)); all_goals (first | (apply ol_gskip; exact rfl; exact rfl; (first | exact rfl | assumption); exact rfl) | (apply ol_gval; exact rfl; exact rfl; exact rfl; (first | exact rfl | assumption); apply stp_cmp; apply s_geq; exact rfl; exact rfl; all_goals (intro hc19; try (exfalso; (first | exact hc19 rfl | omega))))); all_goals (apply ol_val; exact rfl; apply stp_pur; first | (apply s_pick_t; exact rfl; (first | exact rfl | assumption); exact rfl) | (apply s_pick_f; exact rfl; (first | exact rfl | assumption); exact rfl)); all_goals (apply ol_mv; exact rfl; exact rfl); all_goals (first | (apply ol_gskip; exact rfl; exact rfl; (first | exact rfl | assumption); exact rfl) | (apply ol_gval; exact rfl; exact rfl; exact rfl; (first | exact rfl | assumption); apply stp_pur; apply s_move; exact rfl)); all_goals (first | (apply ol_gskip; exact rfl; exact rfl; (first | exact rfl | assumption); exact rfl) | (apply ol_gval; exact rfl; exact rfl; exact rfl; (first | exact rfl | assumption); apply stp_cmp; apply s_leq; exact rfl; exact rfl; all_goals (intro hc23; try (exfalso; (first | exact hc23 rfl | omega))))); all_goals (apply ol_val; exact rfl; apply stp_pur; first | (apply s_pick_t; exact rfl; (first | exact rfl | assumption); exact rfl) | (apply s_pick_f; exact rfl; (first | exact rfl | assumption); exact rfl)); all_goals (apply ol_nil))
          | (refine cw_region_id 4 ?_; (apply ol_mv; exact rfl; exact rfl); (apply ol_val; exact rfl; apply stp_pur; apply s_subW; exact rfl; exact rfl); (apply ol_val; exact rfl; apply stp_pur; first | (apply s_conv; exact rfl; exact rfl; exact ti_41; (focus (apply wrap_u64; omega))) | (apply s_conv; exact rfl; exact rfl; exact ti_41; exact rfl)); (apply ol_val; exact rfl; apply stp_pur; apply s_addW; exact rfl; exact rfl); (apply ol_as; exact rfl; exact rfl); (apply ol_as; exact rfl; exact rfl); (apply ol_nil))
          | (refine cw_region_id 5 ?_; (apply ol_as; exact rfl; exact rfl); (apply ol_as; exact rfl; exact rfl); (apply ol_nil))
          | (apply cw_cond_true; exact rfl; (first | exact rfl | assumption))
          | (apply cw_cond_false; exact rfl; (first | exact rfl | assumption))
          | apply cw_skip
          | apply cw_ret
          | apply cw_block
          | apply cw_exit
        all_goals (refine ends [] (RVal.tmp rfl (RVal.tmp rfl RVal.nil)) Pick.nil ?_; rfl)
      · unfold dv
        rw [decide_eq_true (show valc c < 16 by omega), if_pos (show valc c < 16 by omega), hv]
        repeat' first
          | apply cw_seq
          | (refine cw_region_id 0 ?_; (apply ol_as; exact rfl; exact rfl); (apply ol_as; exact rfl; exact rfl); (apply ol_nil))
          | (refine cw_region_id 1 ?_; (apply ol_mv; exact rfl; exact rfl); (apply ol_val; exact rfl; apply stp_cmp; apply s_geq; exact rfl; exact rfl; all_goals (intro hc7; try (exfalso; (first | exact hc7 rfl | omega)))); all_goals (apply ol_mv; exact rfl; exact rfl); all_goals (first | (apply ol_gskip; exact rfl; exact rfl; (first | exact rfl | assumption); exact rfl) | (apply ol_gval; exact rfl; exact rfl; exact rfl; (first | exact rfl | assumption); apply stp_pur; apply s_move; exact rfl)); all_goals (first | (apply ol_gskip; exact rfl; exact rfl; (first | exact rfl | assumption); exact rfl) | (apply ol_gval; exact rfl; exact rfl; exact rfl; (first | exact rfl | assumption); apply stp_cmp; apply s_leq; exact rfl; exact rfl; all_goals (intro hc10; try (exfalso; (first | exact hc10 rfl | omega))))); all_goals (apply ol_val; exact rfl; apply stp_pur; first | (apply s_pick_t; exact rfl; (first | exact rfl | assumption); exact rfl) | (apply s_pick_f; exact rfl; (first | exact rfl | assumption); exact rfl)); all_goals (apply ol_nil))
          | (refine cw_region_id 2 ?_; (apply ol_mv; exact rfl; exact rfl); (apply ol_val; exact rfl; apply stp_pur; first | (apply s_subF; exact rfl; exact rfl; (first | (dsimp only [lowK, highK]; omega))) | (apply s_subW; exact rfl; exact rfl)); (apply ol_val; exact rfl; apply stp_pur; first | (apply s_conv; exact rfl; exact rfl; exact ti_41; (focus (apply wrap_u64; omega))) | (apply s_conv; exact rfl; exact rfl; exact ti_41; exact rfl)); (apply ol_as; exact rfl; exact rfl); (apply ol_as; exact rfl; exact rfl); (apply ol_nil))
          | (refine cw_region_id 3 ?_; (apply ol_mv; exact rfl; exact rfl); (apply ol_val; exact rfl; apply stp_cmp; apply s_eql; exact rfl; exact rfl; all_goals (intro hc16; try (exfalso; (first | exact hc16 rfl | omega)))); all_goals (apply ol_mv; exact rfl; exact rfl); all_goals (first | (apply ol_gskip; exact rfl; exact rfl; (first | exact rfl | assumption); exact rfl) | (apply ol_gval; exact rfl; exact rfl; exact rfl; (first | exact rfl | assumption); apply stp_pur; apply s_move; exact rfl)); all_goals (first | (apply ol_gskip; exact rfl; exact rfl; (first | exact rfl | assumption); exact rfl) | (apply ol_gval; exact rfl; exact rfl; exact rfl; (first | exact rfl | assumption); apply stp_cmp; apply s_geq; exact rfl; exact rfl; all_goals (intro hc19; try (exfalso; (first | exact hc19 rfl | omega))))); all_goals (apply ol_val; exact rfl; apply stp_pur; first | (apply s_pick_t; exact rfl; (first | exact rfl | assumption); exact rfl) | (apply s_pick_f; exact rfl; (first | exact rfl | assumption); exact rfl)); all_goals (apply ol_mv; exact rfl; exact rfl); all_goals (first | (apply ol_gskip; exact rfl; exact rfl; (first | exact rfl | assumption); exact rfl) | (apply ol_gval; exact rfl; exact rfl; exact rfl; (first | exact rfl | assumption); apply stp_pur; apply s_move; exact rfl)); all_goals (first | (apply ol_gskip; exact rfl; exact rfl; (first | exact rfl | assumption); exact rfl) | (apply ol_gval; exact rfl; exact rfl; exact rfl; (first | exact rfl | assumption); apply stp_cmp; apply s_leq; exact rfl; exact rfl; all_goals (intro hc23; try (exfalso; (first | exact hc23 rfl | omega))))); all_goals (apply ol_val; exact rfl; apply stp_pur; first | (apply s_pick_t; exact rfl; (first | exact rfl | assumption); exact rfl) | (apply s_pick_f; exact rfl; (first | exact rfl | assumption); exact rfl)); all_goals (apply ol_nil))
          | (refine cw_region_id 4 ?_; (apply ol_mv; exact rfl; exact rfl); (apply ol_val; exact rfl; apply stp_pur; first | (apply s_subF; exact rfl; exact rfl; (first | (dsimp only [lowK, highK]; omega))) | (apply s_subW; exact rfl; exact rfl)); (apply ol_val; exact rfl; apply stp_pur; first | (apply s_conv; exact rfl; exact rfl; exact ti_41; (focus (apply wrap_u64; omega))) | (apply s_conv; exact rfl; exact rfl; exact ti_41; exact rfl)); (apply ol_val; exact rfl; apply stp_pur; first | (apply s_addF; exact rfl; exact rfl; (first | (dsimp only [lowK, highK]; omega))) | (apply s_addW; exact rfl; exact rfl)); (apply ol_as; exact rfl; exact rfl); (apply ol_as; exact rfl; exact rfl); (apply ol_nil))
          | (refine cw_region_id 5 ?_; (apply ol_as; exact rfl; exact rfl); (apply ol_as; exact rfl; exact rfl); (apply ol_nil))
          | (apply cw_cond_true; exact rfl; (first | exact rfl | assumption))
          | (apply cw_cond_false; exact rfl; (first | exact rfl | assumption))
          | apply cw_skip
          | apply cw_ret
          | apply cw_block
          | apply cw_exit
        refine ends [] (RVal.tmp rfl (RVal.tmp rfl RVal.nil)) Pick.nil ?_
        have e : (((c - 87).toNat : Nat) : Int) = c - 97 + 10 := by omega
        rw [e]; rfl
    · have hv : valc c = 16 := by unfold valc; rw [if_neg h1, if_neg h2]
      unfold dv
      rw [decide_eq_false (show ¬ valc c < b by omega), if_neg (show ¬ valc c < b by omega)]
      rcases hb with rfl | rfl
      ·
        repeat' first
          | apply cw_seq
          | (refine cw_region_id 0 ?_; (apply ol_as; exact rfl; exact rfl); (apply ol_as; exact rfl; exact rfl); (apply ol_nil))
          | (refine cw_region_id 1 ?_; (apply ol_mv; exact rfl; exact rfl); (apply ol_val; exact rfl; apply stp_cmp; apply s_geq; exact rfl; exact rfl; all_goals (intro hc7; try (exfalso; (first | exact hc7 rfl | omega)))); all_goals (apply ol_mv; exact rfl; exact rfl); all_goals (first | (apply ol_gskip; exact rfl; exact rfl; (first | exact rfl | assumption); exact rfl) | (apply ol_gval; exact rfl; exact rfl; exact rfl; (first | exact rfl | assumption); apply stp_pur; apply s_move; exact rfl)); all_goals (first | (apply ol_gskip; exact rfl; exact rfl; (first | exact rfl | assumption); exact rfl) | (apply ol_gval; exact rfl; exact rfl; exact rfl; (first | exact rfl | assumption); apply stp_cmp; apply s_leq; exact rfl; exact rfl; all_goals (intro hc10; try (exfalso; (first | exact hc10 rfl | omega))))); all_goals (apply ol_val; exact rfl; apply stp_pur; first | (apply s_pick_t; exact rfl; (first | exact rfl | assumption); exact rfl) | (apply s_pick_f; exact rfl; (first | exact rfl | assumption); exact rfl)); all_goals (apply ol_nil))
          | (refine cw_region_id 2 ?_; (apply ol_mv; exact rfl; exact rfl); (apply ol_val; exact rfl; apply stp_pur; apply s_subW; exact rfl; exact rfl); (apply ol_val; exact rfl; apply stp_pur; first | (apply s_conv; exact rfl; exact rfl; exact ti_41; (focus (apply wrap_u64; omega))) | (apply s_conv; exact rfl; exact rfl; exact ti_41; exact rfl)); (apply ol_as; exact rfl; exact rfl); (apply ol_as; exact rfl; exact rfl); (apply ol_nil))
          | (refine cw_region_id 3 ?_; (apply ol_mv; exact rfl; exact rfl); (apply ol_val; exact rfl; apply stp_cmp; apply s_eql; exact rfl; exact rfl; all_goals (intro hc16; try (exfalso; (first | exact hc16 rfl | omega)))); all_goals (apply ol_mv; exact rfl; exact rfl); all_goals (first | (apply ol_gskip; exact rfl; exact rfl; (first | exact rfl | assumption); exact rfl) | (apply ol_gval; exact rfl; exact rfl; exact rfl; (first | exact rfl | assumption); apply stp_pur; apply s_move; exact rfl)); all_goals (first | (apply ol_gskip; exact rfl; exact rfl; (first | exact rfl | assumption); exact rfl) | (apply ol_gval; exact rfl; exact rfl; exact rfl; (first | exact rfl | assumption); apply stp_cmp; apply s_geq; exact rfl; exact rfl; all_goals (intro hc19; try (exfalso; (first | exact hc19 rfl | omega))))); all_goals (apply ol_val; exact rfl; apply stp_pur; first | (apply s_pick_t; exact rfl; (first | exact rfl | assumption); exact rfl) | (apply s_pick_f; exact rfl; (first | exact rfl | assumption); exact rfl)); all_goals (apply ol_mv; exact rfl; exact rfl); all_goals (first | (apply ol_gskip; exact rfl; exact rfl; (first | exact rfl | assumption); exact rfl) | (apply ol_gval; exact rfl; exact rfl; exact rfl; (first | exact rfl | assumption); apply stp_pur; apply s_move; exact rfl)); all_goals (first | (apply ol_gskip; exact rfl; exact rfl; (first | exact rfl | assumption); exact rfl) | (apply ol_gval; exact rfl; exact rfl; exact rfl; (first | exact rfl | assumption); apply stp_cmp; apply s_leq; exact rfl; exact rfl; all_goals (intro hc23; try (exfalso; (first | exact hc23 rfl | omega))))); all_goals (apply ol_val; exact rfl; apply stp_pur; first | (apply s_pick_t; exact rfl; (first | exact rfl | assumption); exact rfl) | (apply s_pick_f; exact rfl; (first | exact rfl | assumption); exact rfl)); all_goals (apply ol_nil))
          | (refine cw_region_id 4 ?_; (apply ol_mv; exact rfl; exact rfl); (apply ol_val; exact rfl; apply stp_pur; apply s_subW; exact rfl; exact rfl); (apply ol_val; exact rfl; apply stp_pur; first | (apply s_conv; exact rfl; exact rfl; exact ti_41; (focus (apply wrap_u64; omega))) | (apply s_conv; exact rfl; exact rfl; exact ti_41; exact rfl)); (apply ol_val; exact rfl; apply stp_pur; apply s_addW; exact rfl; exact rfl); (apply ol_as; exact rfl; exact rfl); (apply ol_as; exact rfl; exact rfl); (apply ol_nil))
          | (refine cw_region_id 5 ?_; (apply ol_as; exact rfl; exact rfl); (apply ol_as; exact rfl; exact rfl); (apply ol_nil))
          | (apply cw_cond_true; exact rfl; (first | exact rfl | assumption))
          | (apply cw_cond_false; exact rfl; (first | exact rfl | assumption))
          | apply cw_skip
          | apply cw_ret
          | apply cw_block
          | apply cw_exit
        all_goals (refine ends [] (RVal.tmp rfl (RVal.tmp rfl RVal.nil)) Pick.nil ?_; rfl)
      ·
        repeat' first
          | apply cw_seq
          | (refine cw_region_id 0 ?_; (apply ol_as; exact rfl; exact rfl); (apply ol_as; exact rfl; exact rfl); (apply ol_nil))
          | (refine cw_region_id 1 ?_; (apply ol_mv; exact rfl; exact rfl); (apply ol_val; exact rfl; apply stp_cmp; apply s_geq; exact rfl; exact rfl; all_goals (intro hc7; try (exfalso; (first | exact hc7 rfl | omega)))); all_goals (apply ol_mv; exact rfl; exact rfl); all_goals (first | (apply ol_gskip; exact rfl; exact rfl; (first | exact rfl | assumption); exact rfl) | (apply ol_gval; exact rfl; exact rfl; exact rfl; (first | exact rfl | assumption); apply stp_pur; apply s_move; exact rfl)); all_goals (first | (apply ol_gskip; exact rfl; exact rfl; (first | exact rfl | assumption); exact rfl) | (apply ol_gval; exact rfl; exact rfl; exact rfl; (first | exact rfl | assumption); apply stp_cmp; apply s_leq; exact rfl; exact rfl; all_goals (intro hc10; try (exfalso; (first | exact hc10 rfl | omega))))); all_goals (apply ol_val; exact rfl; apply stp_pur; first | (apply s_pick_t; exact rfl; (first | exact rfl | assumption); exact rfl) | (apply s_pick_f; exact rfl; (first | exact rfl | assumption); exact rfl)); all_goals (apply ol_nil))
          | (refine cw_region_id 2 ?_; (apply ol_mv; exact rfl; exact rfl); (apply ol_val; exact rfl; apply stp_pur; apply s_subW; exact rfl; exact rfl); (apply ol_val; exact rfl; apply stp_pur; first | (apply s_conv; exact rfl; exact rfl; exact ti_41; (focus (apply wrap_u64; omega))) | (apply s_conv; exact rfl; exact rfl; exact ti_41; exact rfl)); (apply ol_as; exact rfl; exact rfl); (apply ol_as; exact rfl; exact rfl); (apply ol_nil))
          | (refine cw_region_id 3 ?_; (apply ol_mv; exact rfl; exact rfl); (apply ol_val; exact rfl; apply stp_cmp; apply s_eql; exact rfl; exact rfl; all_goals (intro hc16; try (exfalso; (first | exact hc16 rfl | omega)))); all_goals (apply ol_mv; exact rfl; exact rfl); all_goals (first | (apply ol_gskip; exact rfl; exact rfl; (first | exact rfl | assumption); exact rfl) | (apply ol_gval; exact rfl; exact rfl; exact rfl; (first | exact rfl | assumption); apply stp_pur; apply s_move; exact rfl)); all_goals (first | (apply ol_gskip; exact rfl; exact rfl; (first | exact rfl | assumption); exact rfl) | (apply ol_gval; exact rfl; exact rfl; exact rfl; (first | exact rfl | assumption); apply stp_cmp; apply s_geq; exact rfl; exact rfl; all_goals (intro hc19; try (exfalso; (first | exact hc19 rfl | omega))))); all_goals (apply ol_val; exact rfl; apply stp_pur; first | (apply s_pick_t; exact rfl; (first | exact rfl | assumption); exact rfl) | (apply s_pick_f; exact rfl; (first | exact rfl | assumption); exact rfl)); all_goals (apply ol_mv; exact rfl; exact rfl); all_goals (first | (apply ol_gskip; exact rfl; exact rfl; (first | exact rfl | assumption); exact rfl) | (apply ol_gval; exact rfl; exact rfl; exact rfl; (first | exact rfl | assumption); apply stp_pur; apply s_move; exact rfl)); all_goals (first | (apply ol_gskip; exact rfl; exact rfl; (first | exact rfl | assumption); exact rfl) | (apply ol_gval; exact rfl; exact rfl; exact rfl; (first | exact rfl | assumption); apply stp_cmp; apply s_leq; exact rfl; exact rfl; all_goals (intro hc23; try (exfalso; (first | exact hc23 rfl | omega))))); all_goals (apply ol_val; exact rfl; apply stp_pur; first | (apply s_pick_t; exact rfl; (first | exact rfl | assumption); exact rfl) | (apply s_pick_f; exact rfl; (first | exact rfl | assumption); exact rfl)); all_goals (apply ol_nil))
          | (refine cw_region_id 4 ?_; (apply ol_mv; exact rfl; exact rfl); (apply ol_val; exact rfl; apply stp_pur; apply s_subW; exact rfl; exact rfl); (apply ol_val; exact rfl; apply stp_pur; first | (apply s_conv; exact rfl; exact rfl; exact ti_41; (focus (apply wrap_u64; omega))) | (apply s_conv; exact rfl; exact rfl; exact ti_41; exact rfl)); (apply ol_val; exact rfl; apply stp_pur; apply s_addW; exact rfl; exact rfl); (apply ol_as; exact rfl; exact rfl); (apply ol_as; exact rfl; exact rfl); (apply ol_nil))
          | (refine cw_region_id 5 ?_; (apply ol_as; exact rfl; exact rfl); (apply ol_as; exact rfl; exact rfl); (apply ol_nil))
          | (apply cw_cond_true; exact rfl; (first | exact rfl | assumption))
          | (apply cw_cond_false; exact rfl; (first | exact rfl | assumption))
          | apply cw_skip
          | apply cw_ret
          | apply cw_block
          | apply cw_exit
        all_goals (refine ends [] (RVal.tmp rfl (RVal.tmp rfl RVal.nil)) Pick.nil ?_; rfl)

theorem digit_spec (w : World) {d : Nat} (hd : d < 16) : FnC Tryd.prog 38 [.int .u64 d] w (fun v _ => v = .string (strOf [chr d])) := by
  refine enterF (M := View.of w) Tryd.func38 rfl rfl rfl rfl (View.le.refl _) ?_
  unfold chr
  by_cases h1 : d < 10
  · rw [if_pos h1]
    repeat' first
      | apply cw_seq
      | (refine cw_region_id 0 ?_; (apply ol_as; exact rfl; exact rfl); (apply ol_nil))
      | (refine cw_region_id 1 ?_; (apply ol_mv; exact rfl; exact rfl); (apply ol_val; exact rfl; apply stp_cmp; apply s_lss; exact rfl; exact rfl; all_goals (intro hc4; try (exfalso; (first | exact hc4 rfl | omega)))); all_goals (apply ol_nil))
      | (refine cw_region_id 2 ?_; (apply ol_mv; exact rfl; exact rfl); (apply ol_val; exact rfl; apply stp_pur; first | (apply s_addF; exact rfl; exact rfl; (first | (dsimp only [lowK, highK]; omega))) | (apply s_addW; exact rfl; exact rfl)); (apply ol_val; exact rfl; apply stp_pur; first | (apply s_conv; exact rfl; exact rfl; exact ti_5; (focus (apply wrap_u8; omega))) | (apply s_conv; exact rfl; exact rfl; exact ti_5; exact rfl)); (apply ol_val; exact rfl; apply s_buildSl; exact rfl; exact el_33; exact sz_5; exact zb_5; (focus ((repeat constructor); done)); exact rfl; exact rfl; (exact Nat.le_of_ble_eq_true rfl); (focus ((repeat constructor); done)); (focus ((repeat (first | exact rfl | constructor)); done)); intro bk8); (apply ol_val; exact rfl; apply stp_pur; apply s_convBS; exact rfl; exact el_33; exact tdInt_eq ti_5; exact us_9; exact (fun _ => rfl); exact (show [48 + (d : Int)].length = _ from rfl); (apply RdN.own; (repeat (first | exact Has.here | apply Has.there)); exact GetN.cons rfl GetN.nil)); (apply ol_as; exact rfl; exact rfl); (apply ol_nil))
      | (refine cw_region_id 3 ?_; (apply ol_mv; exact rfl; exact rfl); (apply ol_val; exact rfl; apply stp_pur; first | (apply s_addF; exact rfl; exact rfl; (first | (dsimp only [lowK, highK]; omega))) | (apply s_addW; exact rfl; exact rfl)); (apply ol_val; exact rfl; apply stp_pur; first | (apply s_subF; exact rfl; exact rfl; (first | (dsimp only [lowK, highK]; omega))) | (apply s_subW; exact rfl; exact rfl)); (apply ol_val; exact rfl; apply stp_pur; first | (apply s_conv; exact rfl; exact rfl; exact ti_5; (focus (apply wrap_u8; omega))) | (apply s_conv; exact rfl; exact rfl; exact ti_5; exact rfl)); (apply ol_val; exact rfl; apply s_buildSl; exact rfl; exact el_33; exact sz_5; exact zb_5; (focus ((repeat constructor); done)); exact rfl; exact rfl; (exact Nat.le_of_ble_eq_true rfl); (focus ((repeat constructor); done)); (focus ((repeat (first | exact rfl | constructor)); done)); intro bk14); (apply ol_val; exact rfl; apply stp_pur; apply s_convBS; exact rfl; exact el_33; exact tdInt_eq ti_5; exact us_9; exact (fun _ => rfl); exact (show [48 + (d : Int)].length = _ from rfl); (apply RdN.own; (repeat (first | exact Has.here | apply Has.there)); exact GetN.cons rfl GetN.nil)); (apply ol_as; exact rfl; exact rfl); (apply ol_nil))
      | (apply cw_cond_true; exact rfl; (first | exact rfl | assumption))
      | (apply cw_cond_false; exact rfl; (first | exact rfl | assumption))
      | apply cw_skip
      | apply cw_ret
      | apply cw_block
      | apply cw_exit
    refine ends [] (RVal.tmp rfl RVal.nil) Pick.nil ?_
    rfl
  · rw [if_neg h1, show (87 : Int) + d = 97 + (d : Int) - 10 by omega]
    repeat' first
      | apply cw_seq
      | (refine cw_region_id 0 ?_; (apply ol_as; exact rfl; exact rfl); (apply ol_nil))
      | (refine cw_region_id 1 ?_; (apply ol_mv; exact rfl; exact rfl); (apply ol_val; exact rfl; apply stp_cmp; apply s_lss; exact rfl; exact rfl; all_goals (intro hc4; try (exfalso; (first | exact hc4 rfl | omega)))); all_goals (apply ol_nil))
      | (refine cw_region_id 2 ?_; (apply ol_mv; exact rfl; exact rfl); (apply ol_val; exact rfl; apply stp_pur; first | (apply s_addF; exact rfl; exact rfl; (first | (dsimp only [lowK, highK]; omega))) | (apply s_addW; exact rfl; exact rfl)); (apply ol_val; exact rfl; apply stp_pur; first | (apply s_conv; exact rfl; exact rfl; exact ti_5; (focus (apply wrap_u8; omega))) | (apply s_conv; exact rfl; exact rfl; exact ti_5; exact rfl)); (apply ol_val; exact rfl; apply s_buildSl; exact rfl; exact el_33; exact sz_5; exact zb_5; (focus ((repeat constructor); done)); exact rfl; exact rfl; (exact Nat.le_of_ble_eq_true rfl); (focus ((repeat constructor); done)); (focus ((repeat (first | exact rfl | constructor)); done)); intro bk8); (apply ol_val; exact rfl; apply stp_pur; apply s_convBS; exact rfl; exact el_33; exact tdInt_eq ti_5; exact us_9; exact (fun _ => rfl); exact (show [97 + (d : Int) - 10].length = _ from rfl); (apply RdN.own; (repeat (first | exact Has.here | apply Has.there)); exact GetN.cons rfl GetN.nil)); (apply ol_as; exact rfl; exact rfl); (apply ol_nil))
      | (refine cw_region_id 3 ?_; (apply ol_mv; exact rfl; exact rfl); (apply ol_val; exact rfl; apply stp_pur; first | (apply s_addF; exact rfl; exact rfl; (first | (dsimp only [lowK, highK]; omega))) | (apply s_addW; exact rfl; exact rfl)); (apply ol_val; exact rfl; apply stp_pur; first | (apply s_subF; exact rfl; exact rfl; (first | (dsimp only [lowK, highK]; omega))) | (apply s_subW; exact rfl; exact rfl)); (apply ol_val; exact rfl; apply stp_pur; first | (apply s_conv; exact rfl; exact rfl; exact ti_5; (focus (apply wrap_u8; omega))) | (apply s_conv; exact rfl; exact rfl; exact ti_5; exact rfl)); (apply ol_val; exact rfl; apply s_buildSl; exact rfl; exact el_33; exact sz_5; exact zb_5; (focus ((repeat constructor); done)); exact rfl; exact rfl; (exact Nat.le_of_ble_eq_true rfl); (focus ((repeat constructor); done)); (focus ((repeat (first | exact rfl | constructor)); done)); intro bk14); (apply ol_val; exact rfl; apply stp_pur; apply s_convBS; exact rfl; exact el_33; exact tdInt_eq ti_5; exact us_9; exact (fun _ => rfl); exact (show [97 + (d : Int) - 10].length = _ from rfl); (apply RdN.own; (repeat (first | exact Has.here | apply Has.there)); exact GetN.cons rfl GetN.nil)); (apply ol_as; exact rfl; exact rfl); (apply ol_nil))
      | (apply cw_cond_true; exact rfl; (first | exact rfl | assumption))
      | (apply cw_cond_false; exact rfl; (first | exact rfl | assumption))
      | apply cw_skip
      | apply cw_ret
      | apply cw_block
      | apply cw_exit
    refine ends [] (RVal.tmp rfl RVal.nil) Pick.nil ?_
    rfl

theorem trimmed_spec {M : View} {w : World} (hM : View.le M (View.of w)) {a : Option Addr} {b o c k N : Nat} (hN : N < W ^ k) (hk : k ≤ 1000000) (hkc : k ≤ c) (s : SlA M (eK .u32) 1 a (wI k N) b o) :
    FnC Tryd.prog 27 [.slice a k c] w (fun v _ => v = .agg [.slice (if nd W N = 0 then none else a) (nd W N) (if nd W N = 0 then 0 else c)].toArray) := by
  refine enterF (M := M) Tryd.func27 rfl rfl rfl rfl hM ?_
  repeat' first
    | apply cw_seq
    | (refine cw_region_id 0 ?_; (apply ol_val; exact rfl; apply s_alloc; exact zb_25; (focus ((repeat constructor); done)); intro bk2); (apply ol_nil))
    | (apply cw_cond_true; exact rfl; (first | exact rfl | assumption))
    | (apply cw_cond_false; exact rfl; (first | exact rfl | assumption))
    | apply cw_skip
    | apply cw_ret
    | apply cw_block
    | apply cw_exit
  refine cw_loopK (σ := Nat) [] (by (repeat (first | exact Keep.nil | (apply Keep.cons; exact rfl)))) (fun j => [(0, .slice a j c), (2, .pointer (some ⟨bk2, 0, none⟩))]) (fun _ => M) (fun _ => [⟨some bk2, [.slice none 0 0], 25⟩]) (fun j => j ≤ k ∧ N < W ^ j) (fun j => j) k (by (repeat (first | exact trivial | refine And.intro rfl ?_))) (View.le.refl _) (by (repeat (first | exact Pick.nil | (apply Pick.cons; (focus ((repeat (first | exact Spl.here | apply Spl.there)); done))) | exact Pick.refl))) ⟨Nat.le_refl _, hN⟩ ?_
  rintro j ⟨hj, hNj⟩
  by_cases h0 : j = 0
  · subst h0
    have hn : nd W N = 0 := nd_of_zero hNj
    repeat' first
      | apply cw_seq
      | (refine cw_region_id 1 ?_; (apply ol_mv; exact rfl; exact rfl); (apply ol_val; exact rfl; apply stp_pur; apply s_len; exact rfl; exact el_23); (apply ol_val; exact rfl; apply stp_cmp; apply s_gtr; exact rfl; exact rfl; all_goals (intro hc5; try (exfalso; (first | exact hc5 rfl | omega)))); all_goals (apply ol_mv; exact rfl; exact rfl); all_goals (first | (apply ol_gskip; exact rfl; exact rfl; (first | exact rfl | assumption); exact rfl) | (apply ol_gval; exact rfl; exact rfl; exact rfl; (first | exact rfl | assumption); apply stp_pur; apply s_move; exact rfl)); all_goals (first | (apply ol_gskip; exact rfl; exact rfl; (first | exact rfl | assumption); exact rfl) | (apply ol_gval; exact rfl; exact rfl; exact rfl; (first | exact rfl | assumption); apply stp_pur; apply s_move; exact rfl)); all_goals (first | (apply ol_gskip; exact rfl; exact rfl; (first | exact rfl | assumption); exact rfl) | (apply ol_gval; exact rfl; exact rfl; exact rfl; (first | exact rfl | assumption); apply stp_pur; apply s_len; exact rfl; exact el_23)); all_goals (first | (apply ol_gskip; exact rfl; exact rfl; (first | exact rfl | assumption); exact rfl) | (apply ol_gval; exact rfl; exact rfl; exact rfl; (first | exact rfl | assumption); apply stp_pur; apply s_sub64; exact rfl; exact rfl; omega)); all_goals (first | (apply ol_gskip; exact rfl; exact rfl; (first | exact rfl | assumption); exact rfl) | (apply ol_gval; exact rfl; exact rfl; exact rfl; (first | exact rfl | assumption); apply stp_pur; first | (apply s_indexK; exact rfl; exact rfl; exact el_23; exact sz_51; (first | exact rfl); omega) | (apply s_indexO; exact rfl; exact rfl; exact el_23; exact sz_51; (first | exact rfl); omega))); all_goals (first | (apply ol_gskip; exact rfl; exact rfl; (first | exact rfl | assumption); exact rfl) | (apply ol_gval; exact rfl; exact rfl; exact rfl; (first | exact rfl | assumption); apply stp_pur; apply s_load1; exact rfl; exact rfl; (apply RdN.own; (focus ((repeat constructor); done)); (first | exact GetN.cons rfl GetN.nil | (apply getN_ints_app; (first | omega | (simp; omega) | (simp; done))) | (apply getN_ints; (first | omega | (simp; omega) | (simp; done))))))); all_goals (first | (apply ol_gskip; exact rfl; exact rfl; (first | exact rfl | assumption); exact rfl) | (apply ol_gval; exact rfl; exact rfl; exact rfl; (first | exact rfl | assumption); apply stp_cmp; apply s_eql; exact rfl; exact rfl; all_goals (intro hc13; try (exfalso; (first | exact hc13 rfl | omega))))); all_goals (apply ol_val; exact rfl; apply stp_pur; first | (apply s_pick_t; exact rfl; (first | exact rfl | assumption); exact rfl) | (apply s_pick_f; exact rfl; (first | exact rfl | assumption); exact rfl)); all_goals (apply ol_nil))
      | (refine cw_region_id 2 ?_; (apply ol_mv; exact rfl; exact rfl); (apply ol_mv; exact rfl; exact rfl); (apply ol_val; exact rfl; apply stp_pur; apply s_len; exact rfl; exact el_23); (apply ol_val; exact rfl; apply stp_pur; apply s_sub64; exact rfl; exact rfl; omega); (apply ol_val; exact rfl; apply stp_pur; apply s_slice; exact rfl; exact el_23; exact sz_51; exact rfl; exact Exists.intro _ rfl; exact rfl; (intro h; first | exact rfl | cases h); (first | omega | (simp; omega) | (simp; done)); (first | omega | (simp; omega) | (simp; done)); (first | omega | (simp; omega) | (simp; done))); (apply ol_as; exact rfl; exact rfl); (apply ol_nil))
      | (refine cw_region_id 3 ?_; (apply ol_mv; exact rfl; exact rfl); (apply ol_val; exact rfl; apply stp_pur; apply s_len; exact rfl; exact el_23); (apply ol_val; exact rfl; apply stp_cmp; apply s_eql; exact rfl; exact rfl; all_goals (intro hc22; try (exfalso; (first | exact hc22 rfl | omega)))); all_goals (apply ol_nil))
      | (refine cw_region_id 4 ?_; (apply ol_val; exact rfl; apply stp_pur; apply s_buildS; exact rfl; exact fs_25; exact zb_25; (focus ((repeat (first | exact rfl | constructor)); done))); (apply ol_eff; apply s_storeN; exact rfl; exact rfl; exact sz_25; exact rfl; exact rfl; (focus ((repeat constructor); done)); (focus ((repeat constructor); done))); (apply ol_nil))
      | (refine cw_region_id 5 ?_; (apply ol_mv; exact rfl; exact rfl); (apply ol_val; exact rfl; apply stp_pur; apply s_buildS; exact rfl; exact fs_25; exact zb_25; (focus ((repeat (first | exact rfl | constructor)); done))); (apply ol_eff; apply s_storeN; exact rfl; exact rfl; exact sz_25; exact rfl; exact rfl; (focus ((repeat constructor); done)); (focus ((repeat constructor); done))); (apply ol_nil))
      | (apply cw_cond_true; exact rfl; (first | exact rfl | assumption))
      | (apply cw_cond_false; exact rfl; (first | exact rfl | assumption))
      | apply cw_skip
      | apply cw_ret
      | apply cw_block
      | apply cw_exit
    refine ends [] (RVal.cellN rfl rfl rfl (RdN.own (by (repeat (first | exact Has.here | apply Has.there))) (GetN.cons rfl GetN.nil)) RVal.nil) Pick.nil ?_
    rw [hn]; rfl
  · have hl : j - 1 < (wI k N).length := by rw [wI_length]; omega
    have hc := s.cells (j - 1) hl
    have hq : o + ((j : Int) - 1).toNat * 1 = o + (j - 1) * 1 := by omega
    rw [← hq] at hc
    have hz := wI_get hl
    generalize (wI k N)[j - 1]'hl = z at *
    by_cases hz0 : z = 0
    · have hlt : N < W ^ (j - 1) := lt_of_top (by omega) hNj (by omega)
      repeat' first
        | apply cw_seq
        | (refine cw_region_id 1 ?_; (apply ol_mv; exact rfl; exact rfl); (apply ol_val; exact rfl; apply stp_pur; apply s_len; exact rfl; exact el_23); (apply ol_val; exact rfl; apply stp_cmp; apply s_gtr; exact rfl; exact rfl; all_goals (intro hc5; try (exfalso; (first | exact hc5 rfl | omega)))); all_goals (apply ol_mv; exact rfl; exact rfl); all_goals (first | (apply ol_gskip; exact rfl; exact rfl; (first | exact rfl | assumption); exact rfl) | (apply ol_gval; exact rfl; exact rfl; exact rfl; (first | exact rfl | assumption); apply stp_pur; apply s_move; exact rfl)); all_goals (first | (apply ol_gskip; exact rfl; exact rfl; (first | exact rfl | assumption); exact rfl) | (apply ol_gval; exact rfl; exact rfl; exact rfl; (first | exact rfl | assumption); apply stp_pur; apply s_move; exact rfl)); all_goals (first | (apply ol_gskip; exact rfl; exact rfl; (first | exact rfl | assumption); exact rfl) | (apply ol_gval; exact rfl; exact rfl; exact rfl; (first | exact rfl | assumption); apply stp_pur; apply s_len; exact rfl; exact el_23)); all_goals (first | (apply ol_gskip; exact rfl; exact rfl; (first | exact rfl | assumption); exact rfl) | (apply ol_gval; exact rfl; exact rfl; exact rfl; (first | exact rfl | assumption); apply stp_pur; apply s_sub64; exact rfl; exact rfl; omega)); all_goals (first | (apply ol_gskip; exact rfl; exact rfl; (first | exact rfl | assumption); exact rfl) | (apply ol_gval; exact rfl; exact rfl; exact rfl; (first | exact rfl | assumption); apply stp_pur; first | (apply s_indexK; exact rfl; exact rfl; exact el_23; exact sz_51; (first | exact rfl | exact s.at_ (by rw [wI_length]; omega)); omega) | (apply s_indexO; exact rfl; exact rfl; exact el_23; exact sz_51; (first | exact rfl | exact s.at_ (by rw [wI_length]; omega)); omega))); all_goals (first | (apply ol_gskip; exact rfl; exact rfl; (first | exact rfl | assumption); exact rfl) | (apply ol_gval; exact rfl; exact rfl; exact rfl; (first | exact rfl | assumption); apply stp_pur; apply s_load1; exact rfl; exact rfl; (first | (apply RdN.own; (focus ((repeat constructor); done)); (first | exact GetN.cons rfl GetN.nil | (apply getN_ints_app; (first | omega | (simp; omega) | (simp; done))) | (apply getN_ints; (first | omega | (simp; omega) | (simp; done))))) | (apply RdN.view; exact hc)))); all_goals (first | (apply ol_gskip; exact rfl; exact rfl; (first | exact rfl | assumption); exact rfl) | (apply ol_gval; exact rfl; exact rfl; exact rfl; (first | exact rfl | assumption); apply stp_cmp; apply s_eql; exact rfl; exact rfl; all_goals (intro hc13; try (exfalso; (first | exact hc13 rfl | omega))))); all_goals (apply ol_val; exact rfl; apply stp_pur; first | (apply s_pick_t; exact rfl; (first | exact rfl | assumption); exact rfl) | (apply s_pick_f; exact rfl; (first | exact rfl | assumption); exact rfl)); all_goals (apply ol_nil))
        | (refine cw_region_id 2 ?_; (apply ol_mv; exact rfl; exact rfl); (apply ol_mv; exact rfl; exact rfl); (apply ol_val; exact rfl; apply stp_pur; apply s_len; exact rfl; exact el_23); (apply ol_val; exact rfl; apply stp_pur; apply s_sub64; exact rfl; exact rfl; omega); (apply ol_val; exact rfl; apply stp_pur; apply s_slice; exact rfl; exact el_23; exact sz_51; exact rfl; (first | exact ⟨.i64, congrArg (fun z => some (Value.int .i64 z)) (show _ = ((j - 1 : Nat) : Int) by omega)⟩ | exact Exists.intro _ rfl); exact rfl; (intro h; first | exact rfl | cases h); (first | omega | (simp; omega) | (simp; done)); (first | omega | (simp; omega) | (simp; done)); (first | omega | (simp; omega) | (simp; done))); (apply ol_as; exact rfl; exact rfl); (apply ol_nil))
        | (refine cw_region_id 3 ?_; (apply ol_mv; exact rfl; exact rfl); (apply ol_val; exact rfl; apply stp_pur; apply s_len; exact rfl; exact el_23); (apply ol_val; exact rfl; apply stp_cmp; apply s_eql; exact rfl; exact rfl; all_goals (intro hc22; try (exfalso; (first | exact hc22 rfl | omega)))); all_goals (apply ol_nil))
        | (refine cw_region_id 4 ?_; (apply ol_val; exact rfl; apply stp_pur; apply s_buildS; exact rfl; exact fs_25; exact zb_25; (focus ((repeat (first | exact rfl | constructor)); done))); (apply ol_eff; apply s_storeN; exact rfl; exact rfl; exact sz_25; exact rfl; exact rfl; (focus ((repeat constructor); done)); (focus ((repeat constructor); done))); (apply ol_nil))
        | (refine cw_region_id 5 ?_; (apply ol_mv; exact rfl; exact rfl); (apply ol_val; exact rfl; apply stp_pur; apply s_buildS; exact rfl; exact fs_25; exact zb_25; (focus ((repeat (first | exact rfl | constructor)); done))); (apply ol_eff; apply s_storeN; exact rfl; exact rfl; exact sz_25; exact rfl; exact rfl; (focus ((repeat constructor); done)); (focus ((repeat constructor); done))); (apply ol_nil))
        | (apply cw_cond_true; exact rfl; (first | exact rfl | assumption))
        | (apply cw_cond_false; exact rfl; (first | exact rfl | assumption))
        | apply cw_skip
        | apply cw_ret
        | apply cw_block
        | apply cw_exit
      rw [slicedA_zero]
      refine ⟨j - 1, ⟨by (repeat (first | exact trivial | refine And.intro rfl ?_)), View.le.refl _, by (repeat (first | exact Pick.nil | (apply Pick.cons; (focus ((repeat (first | exact Spl.here | apply Spl.there)); done))) | exact Pick.refl)), ⟨by omega, hlt⟩, by omega⟩⟩
    · have hn : nd W N = j := nd_eq (by decide) hNj (fun _ => by omega)
      repeat' first
        | apply cw_seq
        | (refine cw_region_id 1 ?_; (apply ol_mv; exact rfl; exact rfl); (apply ol_val; exact rfl; apply stp_pur; apply s_len; exact rfl; exact el_23); (apply ol_val; exact rfl; apply stp_cmp; apply s_gtr; exact rfl; exact rfl; all_goals (intro hc5; try (exfalso; (first | exact hc5 rfl | omega)))); all_goals (apply ol_mv; exact rfl; exact rfl); all_goals (first | (apply ol_gskip; exact rfl; exact rfl; (first | exact rfl | assumption); exact rfl) | (apply ol_gval; exact rfl; exact rfl; exact rfl; (first | exact rfl | assumption); apply stp_pur; apply s_move; exact rfl)); all_goals (first | (apply ol_gskip; exact rfl; exact rfl; (first | exact rfl | assumption); exact rfl) | (apply ol_gval; exact rfl; exact rfl; exact rfl; (first | exact rfl | assumption); apply stp_pur; apply s_move; exact rfl)); all_goals (first | (apply ol_gskip; exact rfl; exact rfl; (first | exact rfl | assumption); exact rfl) | (apply ol_gval; exact rfl; exact rfl; exact rfl; (first | exact rfl | assumption); apply stp_pur; apply s_len; exact rfl; exact el_23)); all_goals (first | (apply ol_gskip; exact rfl; exact rfl; (first | exact rfl | assumption); exact rfl) | (apply ol_gval; exact rfl; exact rfl; exact rfl; (first | exact rfl | assumption); apply stp_pur; apply s_sub64; exact rfl; exact rfl; omega)); all_goals (first | (apply ol_gskip; exact rfl; exact rfl; (first | exact rfl | assumption); exact rfl) | (apply ol_gval; exact rfl; exact rfl; exact rfl; (first | exact rfl | assumption); apply stp_pur; first | (apply s_indexK; exact rfl; exact rfl; exact el_23; exact sz_51; (first | exact rfl | exact s.at_ (by rw [wI_length]; omega)); omega) | (apply s_indexO; exact rfl; exact rfl; exact el_23; exact sz_51; (first | exact rfl | exact s.at_ (by rw [wI_length]; omega)); omega))); all_goals (first | (apply ol_gskip; exact rfl; exact rfl; (first | exact rfl | assumption); exact rfl) | (apply ol_gval; exact rfl; exact rfl; exact rfl; (first | exact rfl | assumption); apply stp_pur; apply s_load1; exact rfl; exact rfl; (first | (apply RdN.own; (focus ((repeat constructor); done)); (first | exact GetN.cons rfl GetN.nil | (apply getN_ints_app; (first | omega | (simp; omega) | (simp; done))) | (apply getN_ints; (first | omega | (simp; omega) | (simp; done))))) | (apply RdN.view; exact hc)))); all_goals (first | (apply ol_gskip; exact rfl; exact rfl; (first | exact rfl | assumption); exact rfl) | (apply ol_gval; exact rfl; exact rfl; exact rfl; (first | exact rfl | assumption); apply stp_cmp; apply s_eql; exact rfl; exact rfl; all_goals (intro hc13; try (exfalso; (first | exact hc13 rfl | omega))))); all_goals (apply ol_val; exact rfl; apply stp_pur; first | (apply s_pick_t; exact rfl; (first | exact rfl | assumption); exact rfl) | (apply s_pick_f; exact rfl; (first | exact rfl | assumption); exact rfl)); all_goals (apply ol_nil))
        | (refine cw_region_id 2 ?_; (apply ol_mv; exact rfl; exact rfl); (apply ol_mv; exact rfl; exact rfl); (apply ol_val; exact rfl; apply stp_pur; apply s_len; exact rfl; exact el_23); (apply ol_val; exact rfl; apply stp_pur; apply s_sub64; exact rfl; exact rfl; omega); (apply ol_val; exact rfl; apply stp_pur; apply s_slice; exact rfl; exact el_23; exact sz_51; exact rfl; exact Exists.intro _ rfl; exact rfl; (intro h; first | exact rfl | cases h); (first | omega | (simp; omega) | (simp; done)); (first | omega | (simp; omega) | (simp; done)); (first | omega | (simp; omega) | (simp; done))); (apply ol_as; exact rfl; exact rfl); (apply ol_nil))
        | (refine cw_region_id 3 ?_; (apply ol_mv; exact rfl; exact rfl); (apply ol_val; exact rfl; apply stp_pur; apply s_len; exact rfl; exact el_23); (apply ol_val; exact rfl; apply stp_cmp; apply s_eql; exact rfl; exact rfl; all_goals (intro hc22; try (exfalso; (first | exact hc22 rfl | omega)))); all_goals (apply ol_nil))
        | (refine cw_region_id 4 ?_; (apply ol_val; exact rfl; apply stp_pur; apply s_buildS; exact rfl; exact fs_25; exact zb_25; (focus ((repeat (first | exact rfl | constructor)); done))); (apply ol_eff; apply s_storeN; exact rfl; exact rfl; exact sz_25; exact rfl; exact rfl; (focus ((repeat constructor); done)); (focus ((repeat constructor); done))); (apply ol_nil))
        | (refine cw_region_id 5 ?_; (apply ol_mv; exact rfl; exact rfl); (apply ol_val; exact rfl; apply stp_pur; apply s_buildS; exact rfl; exact fs_25; exact zb_25; (focus ((repeat (first | exact rfl | constructor)); done))); (apply ol_eff; apply s_storeN; exact rfl; exact rfl; exact sz_25; exact rfl; exact rfl; (focus ((repeat constructor); done)); (focus ((repeat constructor); done))); (apply ol_nil))
        | (apply cw_cond_true; exact rfl; (first | exact rfl | assumption))
        | (apply cw_cond_false; exact rfl; (first | exact rfl | assumption))
        | apply cw_skip
        | apply cw_ret
        | apply cw_block
        | apply cw_exit
      refine ends [] (RVal.cellN rfl rfl rfl (RdN.own (by (repeat (first | exact Has.here | apply Has.there))) (GetN.cons rfl GetN.nil)) RVal.nil) Pick.nil ?_
      rw [hn, if_neg h0, if_neg h0]; rfl

theorem same_spec {M : View} {w : World} (hM : View.le M (View.of w)) {k N k' N' : Nat} (hN : N < W ^ k) (hN' : N' < W ^ k') (hk : k ≤ 1000000) (hk' : k' ≤ 1000000) {a a' : Option Addr} {b o c b' o' c' : Nat} (s : SlA M (eK .u32) 1 a (wI k N) b o) (s' : SlA M (eK .u32) 1 a' (wI k' N') b' o') :
    FnC Tryd.prog 14 [.agg [.slice a k c].toArray, .agg [.slice a' k' c'].toArray] w (fun v _ => v = .bool (decide (k = k' ∧ N = N'))) := by
  refine enterF (M := M) Tryd.func14 rfl rfl rfl rfl hM ?_
  by_cases hkk : k = k'
  · subst hkk
    repeat' first
      | apply cw_seq
      | (refine cw_region_id 0 ?_; (apply ol_val; exact rfl; first | (apply s_boxN; exact rfl; intro bk2) | (apply s_box1; exact rfl; exact rfl; intro bk2)); (apply ol_val; exact rfl; first | (apply s_boxN; exact rfl; intro bk3) | (apply s_box1; exact rfl; exact rfl; intro bk3)); (apply ol_as; exact rfl; exact rfl); (apply ol_nil))
      | (refine cw_region_id 1 ?_; (apply ol_fa; exact rfl; exact rfl; exact fd_25_0; (first | exact Nat.zero_add _ | exact Nat.add_zero _ | exact rfl)); (apply ol_ld; exact rfl; exact rfl; exact rfl; (apply RdN.own; (focus ((repeat constructor); done)); exact GetN.cons rfl GetN.nil)); (apply ol_val; exact rfl; apply stp_pur; apply s_len; exact rfl; exact el_23); (apply ol_fa; exact rfl; exact rfl; exact fd_25_0; (first | exact Nat.zero_add _ | exact Nat.add_zero _ | exact rfl)); (apply ol_ld; exact rfl; exact rfl; exact rfl; (apply RdN.own; (focus ((repeat constructor); done)); exact GetN.cons rfl GetN.nil)); (apply ol_val; exact rfl; apply stp_pur; apply s_len; exact rfl; exact el_23); (apply ol_val; exact rfl; apply stp_cmp; apply s_neq; exact rfl; exact rfl; all_goals (intro hc12; try (exfalso; (first | exact hc12 rfl | omega)))); all_goals (apply ol_nil))
      | (refine cw_region_id 2 ?_; (apply ol_as; exact rfl; exact rfl); (apply ol_nil))
      | (refine cw_region_id 3 ?_; (apply ol_as; exact rfl; exact rfl); (apply ol_nil))
      | (apply cw_cond_true; exact rfl; (first | exact rfl | assumption))
      | (apply cw_cond_false; exact rfl; (first | exact rfl | assumption))
      | apply cw_skip
      | apply cw_ret
      | apply cw_block
      | apply cw_exit
    refine cw_loopK (σ := Nat) [] (by (repeat (first | exact Keep.nil | (apply Keep.cons; exact rfl)))) (fun i => [(2, .pointer (some ⟨bk2, 0, none⟩)), (3, .pointer (some ⟨bk3, 0, none⟩)), (5, .int .i64 i)]) (fun _ => M) (fun _ => [⟨some bk2, [.slice a k c], 25⟩, ⟨some bk3, [.slice a' k c'], 25⟩]) (fun i => i ≤ k ∧ wI i N = wI i N') (fun i => k - i) 0 (by (repeat (first | exact trivial | refine And.intro rfl ?_))) (View.le.refl _) (by (repeat (first | exact Pick.nil | (apply Pick.cons; (focus ((repeat (first | exact Spl.here | apply Spl.there)); done))) | exact Pick.refl))) ⟨Nat.zero_le _, (wI_zero N).trans (wI_zero N').symm⟩ ?_
    rintro i ⟨hi, he⟩
    by_cases hik : i < k
    · have hl : i < (wI k N).length := by rw [wI_length]; omega
      have hl' : i < (wI k N').length := by rw [wI_length]; omega
      have hc := s.cells i hl
      have hc' := s'.cells i hl'
      have hz := wI_get hl
      have hz' := wI_get hl'
      have e1 := wI_succ i N
      have e2 := wI_succ i N'
      rw [← hz] at e1
      rw [← hz'] at e2
      have hne : (wI k N)[i] ≠ (wI k N')[i] → N ≠ N' := fun h e => by subst e; exact h rfl
      generalize (wI k N)[i]'hl = x at *
      generalize (wI k N')[i]'hl' = y at *
      by_cases hxy : x = y
      ·
        repeat' first
          | apply cw_seq
          | (refine cw_region_id 4 ?_; (apply ol_mv; exact rfl; exact rfl); (apply ol_fa; exact rfl; exact rfl; exact fd_25_0; (first | exact Nat.zero_add _ | exact Nat.add_zero _ | exact rfl)); (apply ol_ld; exact rfl; exact rfl; exact rfl; (first | (apply RdN.own; (focus ((repeat constructor); done)); exact GetN.cons rfl GetN.nil) | (apply RdN.view; first | exact hc | exact hc'))); (apply ol_val; exact rfl; apply stp_pur; apply s_len; exact rfl; exact el_23); (apply ol_val; exact rfl; apply stp_cmp; apply s_lss; exact rfl; exact rfl; all_goals (intro hc17; try (exfalso; (first | exact hc17 rfl | omega)))); all_goals (apply ol_nil))
          | (refine cw_draw (id := 6) 11 (.mv 0 (.mv 1 (.mv 2 (.mv 3 (.mv 4 (.mv 5 (.mv 6 (.mv 7 (.mv 8 (.mv 9 (.mv 10 (PT.nil)))))))))))) mixed (by kernel_rfl) ?_; (apply od_mv; exact rfl; exact rfl; apply s_fieldAddr'; exact rfl; exact fd_25_0; (first | exact Nat.zero_add _ | exact Nat.add_zero _ | exact rfl)); (apply od_mv; exact rfl; exact rfl; apply s_load1; exact rfl; exact rfl; (first | (apply RdN.own; (focus ((repeat constructor); done)); exact GetN.cons rfl GetN.nil) | (apply RdN.view; first | exact hc | exact hc'))); (apply od_mv; exact rfl; exact rfl; apply s_move; exact rfl); (apply od_mv; exact rfl; exact rfl; first | (apply s_indexK; exact rfl; exact rfl; exact el_23; exact sz_51; (first | exact rfl | (first | exact s.at_ (by rw [wI_length]; omega) | exact s'.at_ (by rw [wI_length]; omega))); omega) | (apply s_indexO; exact rfl; exact rfl; exact el_23; exact sz_51; (first | exact rfl | (first | exact s.at_ (by rw [wI_length]; omega) | exact s'.at_ (by rw [wI_length]; omega))); omega)); (apply od_mv; exact rfl; exact rfl; apply s_load1; exact rfl; exact rfl; (first | (apply RdN.own; (focus ((repeat constructor); done)); (first | exact GetN.cons rfl GetN.nil | (apply getN_ints_app; (first | omega | (simp; omega) | (simp; done))) | (apply getN_ints; (first | omega | (simp; omega) | (simp; done))))) | (apply RdN.view; first | exact hc | exact hc'))); (apply od_mv; exact rfl; exact rfl; apply s_fieldAddr'; exact rfl; exact fd_25_0; (first | exact Nat.zero_add _ | exact Nat.add_zero _ | exact rfl)); (apply od_mv; exact rfl; exact rfl; apply s_load1; exact rfl; exact rfl; (first | (apply RdN.own; (focus ((repeat constructor); done)); exact GetN.cons rfl GetN.nil) | (apply RdN.view; first | exact hc | exact hc'))); (apply od_mv; exact rfl; exact rfl; apply s_move; exact rfl); (apply od_mv; exact rfl; exact rfl; first | (apply s_indexK; exact rfl; exact rfl; exact el_23; exact sz_51; (first | exact rfl | (first | exact s.at_ (by rw [wI_length]; omega) | exact s'.at_ (by rw [wI_length]; omega))); omega) | (apply s_indexO; exact rfl; exact rfl; exact el_23; exact sz_51; (first | exact rfl | (first | exact s.at_ (by rw [wI_length]; omega) | exact s'.at_ (by rw [wI_length]; omega))); omega)); (apply od_mv; exact rfl; exact rfl; apply s_load1; exact rfl; exact rfl; (first | (apply RdN.own; (focus ((repeat constructor); done)); (first | exact GetN.cons rfl GetN.nil | (apply getN_ints_app; (first | omega | (simp; omega) | (simp; done))) | (apply getN_ints; (first | omega | (simp; omega) | (simp; done))))) | (apply RdN.view; first | exact hc | exact hc'))); (apply od_cmp; exact rfl; exact rfl; apply s_neq; exact rfl; exact rfl; all_goals (intro hc30; try (exfalso; (first | exact hc30 rfl | omega)))); all_goals (apply od_nil; (first | exact Wk.refl _ _ | (focus (apply Wk.mk; (first | exact View.le.refl _ | assumption | exact View.le.trans (by assumption) (by assumption)); (repeat constructor); done)))); all_goals (apply ol_nil))
          | (refine cw_region_id 7 ?_; (apply ol_as; exact rfl; exact rfl); (apply ol_nil))
          | (refine cw_region_id 5 ?_; (apply ol_mv; exact rfl; exact rfl); (apply ol_val; exact rfl; apply stp_pur; apply s_add64; exact rfl; exact rfl; omega); (apply ol_as; exact rfl; exact rfl); (apply ol_nil))
          | (refine cw_region_id 8 ?_; (apply ol_as; exact rfl; exact rfl); (apply ol_nil))
          | (apply cw_cond_true; exact rfl; (first | exact rfl | assumption))
          | (apply cw_cond_false; exact rfl; (first | exact rfl | assumption))
          | apply cw_skip
          | apply cw_ret
          | apply cw_block
          | apply cw_exit
        refine ⟨i + 1, ⟨by (repeat (first | exact trivial | refine And.intro rfl ?_)), View.le.refl _, by (repeat (first | exact Pick.nil | (apply Pick.cons; (focus ((repeat (first | exact Spl.here | apply Spl.there)); done))) | exact Pick.refl)), ⟨hik, ?_⟩, by omega⟩⟩
        rw [e1, e2, he, hxy]
      · rw [decide_eq_false (show ¬ (k = k ∧ N = N') from fun h => hne hxy h.2)]
        repeat' first
          | apply cw_seq
          | (refine cw_region_id 4 ?_; (apply ol_mv; exact rfl; exact rfl); (apply ol_fa; exact rfl; exact rfl; exact fd_25_0; (first | exact Nat.zero_add _ | exact Nat.add_zero _ | exact rfl)); (apply ol_ld; exact rfl; exact rfl; exact rfl; (first | (apply RdN.own; (focus ((repeat constructor); done)); exact GetN.cons rfl GetN.nil) | (apply RdN.view; first | exact hc | exact hc'))); (apply ol_val; exact rfl; apply stp_pur; apply s_len; exact rfl; exact el_23); (apply ol_val; exact rfl; apply stp_cmp; apply s_lss; exact rfl; exact rfl; all_goals (intro hc17; try (exfalso; (first | exact hc17 rfl | omega)))); all_goals (apply ol_nil))
          | (refine cw_draw (id := 6) 11 (.mv 0 (.mv 1 (.mv 2 (.mv 3 (.mv 4 (.mv 5 (.mv 6 (.mv 7 (.mv 8 (.mv 9 (.mv 10 (PT.nil)))))))))))) mixed (by kernel_rfl) ?_; (apply od_mv; exact rfl; exact rfl; apply s_fieldAddr'; exact rfl; exact fd_25_0; (first | exact Nat.zero_add _ | exact Nat.add_zero _ | exact rfl)); (apply od_mv; exact rfl; exact rfl; apply s_load1; exact rfl; exact rfl; (first | (apply RdN.own; (focus ((repeat constructor); done)); exact GetN.cons rfl GetN.nil) | (apply RdN.view; first | exact hc | exact hc'))); (apply od_mv; exact rfl; exact rfl; apply s_move; exact rfl); (apply od_mv; exact rfl; exact rfl; first | (apply s_indexK; exact rfl; exact rfl; exact el_23; exact sz_51; (first | exact rfl | (first | exact s.at_ (by rw [wI_length]; omega) | exact s'.at_ (by rw [wI_length]; omega))); omega) | (apply s_indexO; exact rfl; exact rfl; exact el_23; exact sz_51; (first | exact rfl | (first | exact s.at_ (by rw [wI_length]; omega) | exact s'.at_ (by rw [wI_length]; omega))); omega)); (apply od_mv; exact rfl; exact rfl; apply s_load1; exact rfl; exact rfl; (first | (apply RdN.own; (focus ((repeat constructor); done)); (first | exact GetN.cons rfl GetN.nil | (apply getN_ints_app; (first | omega | (simp; omega) | (simp; done))) | (apply getN_ints; (first | omega | (simp; omega) | (simp; done))))) | (apply RdN.view; first | exact hc | exact hc'))); (apply od_mv; exact rfl; exact rfl; apply s_fieldAddr'; exact rfl; exact fd_25_0; (first | exact Nat.zero_add _ | exact Nat.add_zero _ | exact rfl)); (apply od_mv; exact rfl; exact rfl; apply s_load1; exact rfl; exact rfl; (first | (apply RdN.own; (focus ((repeat constructor); done)); exact GetN.cons rfl GetN.nil) | (apply RdN.view; first | exact hc | exact hc'))); (apply od_mv; exact rfl; exact rfl; apply s_move; exact rfl); (apply od_mv; exact rfl; exact rfl; first | (apply s_indexK; exact rfl; exact rfl; exact el_23; exact sz_51; (first | exact rfl | (first | exact s.at_ (by rw [wI_length]; omega) | exact s'.at_ (by rw [wI_length]; omega))); omega) | (apply s_indexO; exact rfl; exact rfl; exact el_23; exact sz_51; (first | exact rfl | (first | exact s.at_ (by rw [wI_length]; omega) | exact s'.at_ (by rw [wI_length]; omega))); omega)); (apply od_mv; exact rfl; exact rfl; apply s_load1; exact rfl; exact rfl; (first | (apply RdN.own; (focus ((repeat constructor); done)); (first | exact GetN.cons rfl GetN.nil | (apply getN_ints_app; (first | omega | (simp; omega) | (simp; done))) | (apply getN_ints; (first | omega | (simp; omega) | (simp; done))))) | (apply RdN.view; first | exact hc | exact hc'))); (apply od_cmp; exact rfl; exact rfl; apply s_neq; exact rfl; exact rfl; all_goals (intro hc30; try (exfalso; (first | exact hc30 rfl | omega)))); all_goals (apply od_nil; (first | exact Wk.refl _ _ | (focus (apply Wk.mk; (first | exact View.le.refl _ | assumption | exact View.le.trans (by assumption) (by assumption)); (repeat constructor); done)))); all_goals (apply ol_nil))
          | (refine cw_region_id 7 ?_; (apply ol_as; exact rfl; exact rfl); (apply ol_nil))
          | (refine cw_region_id 5 ?_; (apply ol_mv; exact rfl; exact rfl); (apply ol_val; exact rfl; apply stp_pur; apply s_add64; exact rfl; exact rfl; omega); (apply ol_as; exact rfl; exact rfl); (apply ol_nil))
          | (refine cw_region_id 8 ?_; (apply ol_as; exact rfl; exact rfl); (apply ol_nil))
          | (apply cw_cond_true; exact rfl; (first | exact rfl | assumption))
          | (apply cw_cond_false; exact rfl; (first | exact rfl | assumption))
          | apply cw_skip
          | apply cw_ret
          | apply cw_block
          | apply cw_exit
        refine ends [] (RVal.tmp rfl RVal.nil) Pick.nil ?_
        rfl
    · obtain rfl : i = k := by omega
      rw [decide_eq_true (show i = i ∧ N = N' from ⟨rfl, wI_inj hN hN' he⟩)]
      repeat' first
        | apply cw_seq
        | (refine cw_region_id 4 ?_; (apply ol_mv; exact rfl; exact rfl); (apply ol_fa; exact rfl; exact rfl; exact fd_25_0; (first | exact Nat.zero_add _ | exact Nat.add_zero _ | exact rfl)); (apply ol_ld; exact rfl; exact rfl; exact rfl; (apply RdN.own; (focus ((repeat constructor); done)); exact GetN.cons rfl GetN.nil)); (apply ol_val; exact rfl; apply stp_pur; apply s_len; exact rfl; exact el_23); (apply ol_val; exact rfl; apply stp_cmp; apply s_lss; exact rfl; exact rfl; all_goals (intro hc17; try (exfalso; (first | exact hc17 rfl | omega)))); all_goals (apply ol_nil))
        | (refine cw_draw (id := 6) 11 (.mv 0 (.mv 1 (.mv 2 (.mv 3 (.mv 4 (.mv 5 (.mv 6 (.mv 7 (.mv 8 (.mv 9 (.mv 10 (PT.nil)))))))))))) mixed (by kernel_rfl) ?_; (apply od_mv; exact rfl; exact rfl; apply s_fieldAddr'; exact rfl; exact fd_25_0; (first | exact Nat.zero_add _ | exact Nat.add_zero _ | exact rfl)); (apply od_mv; exact rfl; exact rfl; apply s_load1; exact rfl; exact rfl; (apply RdN.own; (focus ((repeat constructor); done)); exact GetN.cons rfl GetN.nil)); (apply od_mv; exact rfl; exact rfl; apply s_move; exact rfl); (apply od_mv; exact rfl; exact rfl; first | (apply s_indexK; exact rfl; exact rfl; exact el_23; exact sz_51; (first | exact rfl); omega) | (apply s_indexO; exact rfl; exact rfl; exact el_23; exact sz_51; (first | exact rfl); omega)); (apply od_mv; exact rfl; exact rfl; apply s_load1; exact rfl; exact rfl; (apply RdN.own; (focus ((repeat constructor); done)); (first | exact GetN.cons rfl GetN.nil | (apply getN_ints_app; (first | omega | (simp; omega) | (simp; done))) | (apply getN_ints; (first | omega | (simp; omega) | (simp; done)))))); (apply od_mv; exact rfl; exact rfl; apply s_fieldAddr'; exact rfl; exact fd_25_0; (first | exact Nat.zero_add _ | exact Nat.add_zero _ | exact rfl)); (apply od_mv; exact rfl; exact rfl; apply s_load1; exact rfl; exact rfl; (apply RdN.own; (focus ((repeat constructor); done)); exact GetN.cons rfl GetN.nil)); (apply od_mv; exact rfl; exact rfl; apply s_move; exact rfl); (apply od_mv; exact rfl; exact rfl; first | (apply s_indexK; exact rfl; exact rfl; exact el_23; exact sz_51; (first | exact rfl); omega) | (apply s_indexO; exact rfl; exact rfl; exact el_23; exact sz_51; (first | exact rfl); omega)); (apply od_mv; exact rfl; exact rfl; apply s_load1; exact rfl; exact rfl; (apply RdN.own; (focus ((repeat constructor); done)); (first | exact GetN.cons rfl GetN.nil | (apply getN_ints_app; (first | omega | (simp; omega) | (simp; done))) | (apply getN_ints; (first | omega | (simp; omega) | (simp; done)))))); (apply od_cmp; exact rfl; exact rfl; apply s_neq; exact rfl; exact rfl; all_goals (intro hc30; try (exfalso; (first | exact hc30 rfl | omega)))); all_goals (apply od_nil; (first | exact Wk.refl _ _ | (focus (apply Wk.mk; (first | exact View.le.refl _ | assumption | exact View.le.trans (by assumption) (by assumption)); (repeat constructor); done)))); all_goals (apply ol_nil))
        | (refine cw_region_id 7 ?_; (apply ol_as; exact rfl; exact rfl); (apply ol_nil))
        | (refine cw_region_id 5 ?_; (apply ol_mv; exact rfl; exact rfl); (apply ol_val; exact rfl; apply stp_pur; apply s_add64; exact rfl; exact rfl; omega); (apply ol_as; exact rfl; exact rfl); (apply ol_nil))
        | (refine cw_region_id 8 ?_; (apply ol_as; exact rfl; exact rfl); (apply ol_nil))
        | (apply cw_cond_true; exact rfl; (first | exact rfl | assumption))
        | (apply cw_cond_false; exact rfl; (first | exact rfl | assumption))
        | apply cw_skip
        | apply cw_ret
        | apply cw_block
        | apply cw_exit
      refine ends [] (RVal.tmp rfl RVal.nil) Pick.nil ?_
      rfl
  · rw [decide_eq_false (show ¬ (k = k' ∧ N = N') from fun h => hkk h.1)]
    repeat' first
      | apply cw_seq
      | (refine cw_region_id 0 ?_; (apply ol_val; exact rfl; first | (apply s_boxN; exact rfl; intro bk2) | (apply s_box1; exact rfl; exact rfl; intro bk2)); (apply ol_val; exact rfl; first | (apply s_boxN; exact rfl; intro bk3) | (apply s_box1; exact rfl; exact rfl; intro bk3)); (apply ol_as; exact rfl; exact rfl); (apply ol_nil))
      | (refine cw_region_id 1 ?_; (apply ol_fa; exact rfl; exact rfl; exact fd_25_0; (first | exact Nat.zero_add _ | exact Nat.add_zero _ | exact rfl)); (apply ol_ld; exact rfl; exact rfl; exact rfl; (apply RdN.own; (focus ((repeat constructor); done)); exact GetN.cons rfl GetN.nil)); (apply ol_val; exact rfl; apply stp_pur; apply s_len; exact rfl; exact el_23); (apply ol_fa; exact rfl; exact rfl; exact fd_25_0; (first | exact Nat.zero_add _ | exact Nat.add_zero _ | exact rfl)); (apply ol_ld; exact rfl; exact rfl; exact rfl; (apply RdN.own; (focus ((repeat constructor); done)); exact GetN.cons rfl GetN.nil)); (apply ol_val; exact rfl; apply stp_pur; apply s_len; exact rfl; exact el_23); (apply ol_val; exact rfl; apply stp_cmp; apply s_neq; exact rfl; exact rfl; all_goals (intro hc12; try (exfalso; (first | exact hc12 rfl | omega)))); all_goals (apply ol_nil))
      | (refine cw_region_id 2 ?_; (apply ol_as; exact rfl; exact rfl); (apply ol_nil))
      | (refine cw_region_id 3 ?_; (apply ol_as; exact rfl; exact rfl); (apply ol_nil))
      | (apply cw_cond_true; exact rfl; (first | exact rfl | assumption))
      | (apply cw_cond_false; exact rfl; (first | exact rfl | assumption))
      | apply cw_skip
      | apply cw_ret
      | apply cw_block
      | apply cw_exit
    all_goals (refine ends [] (RVal.tmp rfl RVal.nil) Pick.nil ?_; rfl)

end Go.Proofs.YtjaeblkgjbncmaaDoor

/-
  The words copied.
-/
namespace Go.Proofs.YtjaeblkgjbncmaaDoor
set_option maxRecDepth 20000
set_option linter.unusedSimpArgs false
set_option linter.unusedVariables false
open Go Go.Fw
attribute [local irreducible] CW OL OD FX Stp FnC FnV Ret wI vd strOf
set_option maxHeartbeats 800000
theorem cloneI_spec {w : World} {M : View} (hM : View.le M (View.of w)) {xs : List Int} {n : Nat} (e1 : xs.length = n) {a : Option Addr} {b o c : Nat} (s : SlA M (eK .u32) 1 a xs b o) (hl : xs.length ≤ 4294967296) :
    FnC Tryd.prog 26 [.slice a n c] w (RowRes (eK .u32) 1 51 xs) := by
  subst e1
  refine enterF (M := M) Tryd.func26 rfl rfl rfl rfl hM ?_
  refine cw_none 51 ?_
  repeat' first
    | apply cw_seq
    | (refine cw_region_id 0 ?_; (apply ol_as; exact rfl; exact rfl); (apply ol_nil))
    | (refine cw_region_id 1 ?_; (apply ol_mv; exact rfl; exact rfl); (apply ol_val; exact rfl; apply stp_cmp; apply s_eqnil; exact rfl; exact el_23; all_goals (intro _; try (exfalso; (first | (rename_i hh; exact hh rfl) | omega)))); all_goals (apply ol_nil))
    | (refine cw_region_id 2 ?_; (apply ol_as; exact rfl; exact rfl); (apply ol_nil))
    | (refine cw_region_id 3 ?_; (apply ol_val; exact rfl; apply s_buildSl; exact rfl; exact el_23; exact sz_51; exact zb_51; (focus ((repeat constructor); done)); exact rfl; exact rfl; (exact Nat.le_of_ble_eq_true rfl); (focus ((repeat constructor); done)); (focus ((repeat (first | exact rfl | constructor)); done)); intro _); (apply ol_mv; exact rfl; exact rfl); (apply ol_val; exact rfl; first | (apply s_append_e; exact rfl; exact rfl; (focus ((repeat constructor); done)); exact el_23; exact sz_51; exact zb_51; exact rfl; exact by_51; (first | exact (fun _ => rfl) | (intro _; exact s.at_ (by omega))); (first | (apply RdN.own; (focus ((repeat constructor); done)); (focus ((repeat (first | exact rfl | constructor)); done))) | (apply RdN.view; exact SlA.all (eK_length .u32) s)); (first | exact rfl | exact ones_flat (fun _ => rfl) _); (first | omega | (simp; omega) | (simp; done)); (first | omega | (simp; omega) | (simp; done)); intro _ _ _ _) | (apply s_append_r; exact rfl; exact rfl; (focus ((repeat constructor); done)); (first | exact rfl | exact (List.append_nil _).symm); exact el_23; exact sz_51; exact zb_51; exact rfl; exact by_51; (first | exact SO.nil _ | assumption | (exact ⟨by simp, by simp, Nat.le_refl _, by simp⟩)); (first | exact (fun _ => rfl) | (intro _; exact s.at_ (by omega))); (first | (apply RdN.own; (focus ((repeat constructor); done)); (focus ((repeat (first | exact rfl | constructor)); done))) | (apply RdN.view; exact SlA.all (eK_length .u32) s)); (first | exact rfl | exact ones_flat (fun _ => rfl) _); (first | omega | (simp; omega) | (simp; done)); (first | omega | (simp; omega) | (simp; done)); intro _ _ _ _) | (apply s_append_b; exact rfl; exact rfl; (focus ((repeat constructor); done)); (first | exact rfl | exact (List.append_nil _).symm); exact el_23; exact sz_51; exact zb_51; exact rfl; exact by_51; (first | exact SO.nil _ | assumption | (exact ⟨by simp, by simp, Nat.le_refl _, by simp⟩)); (first | exact (fun _ => rfl) | (intro _; exact s.at_ (by omega))); (first | (apply RdN.own; (focus ((repeat constructor); done)); (focus ((repeat (first | exact rfl | constructor)); done))) | (apply RdN.view; exact SlA.all (eK_length .u32) s)); (first | exact rfl | exact ones_flat (fun _ => rfl) _); (first | omega | (simp; omega) | (simp; done)); (first | omega | (simp; omega) | (simp; done)); intro _ _ _ _) | (apply s_append_n; exact rfl; exact rfl; (focus ((repeat constructor); done)); exact el_23; exact sz_51; exact zb_51; exact rfl; exact by_51; (first | exact (fun _ => rfl) | (intro _; exact s.at_ (by omega))); (first | (apply RdN.own; (focus ((repeat constructor); done)); (focus ((repeat (first | exact rfl | constructor)); done))) | (apply RdN.view; exact SlA.all (eK_length .u32) s)); (first | exact rfl | exact ones_flat (fun _ => rfl) _); (first | omega | (simp; omega) | (simp; done)); (first | omega | (simp; omega) | (simp; done)); intro _ _ _ _)); (apply ol_as; exact rfl; exact rfl); (apply ol_nil))
    | (apply cw_cond_true; exact rfl; (first | exact rfl | assumption))
    | (apply cw_cond_false; exact rfl; (first | exact rfl | assumption))
    | apply cw_skip
    | apply cw_ret
    | apply cw_block
    | apply cw_exit
  · rename_i h
    have hx : xs = [] := by
      cases xs with
      | nil => rfl
      | cons x xs => have := s.at_ (by simp); rw [this] at h; cases h
    subst hx
    refine ends [⟨none, [], 51⟩] (by (repeat (first | exact RVal.nil | (apply RVal.tmp; exact rfl) | (apply RVal.cellN; exact rfl; exact rfl; (fail); apply RdN.own; (focus ((repeat (first | exact Has.here | apply Has.there)); done)); (focus ((repeat (first | exact GetN.nil | (apply GetN.cons; exact rfl))); done))) | (apply RVal.cell1; exact rfl; exact rfl; apply RdN.own; (focus ((repeat (first | exact Has.here | apply Has.there)); done)); exact GetN.cons rfl GetN.nil)))) (by (repeat (first | exact Pick.nil | (apply Pick.cons; (focus ((repeat (first | exact Spl.here | apply Spl.there)); done))) | exact Pick.refl))) ?_
    exact ⟨none, none, 0, [], rfl, rfl, SO.nil 1⟩
  · rename_i bb r sp cap so
    refine ends [⟨r, flat (eK .u32) xs ++ sp, 51⟩] (by (repeat (first | exact RVal.nil | (apply RVal.tmp; exact rfl) | (apply RVal.cellN; exact rfl; exact rfl; (fail); apply RdN.own; (focus ((repeat (first | exact Has.here | apply Has.there)); done)); (focus ((repeat (first | exact GetN.nil | (apply GetN.cons; exact rfl))); done))) | (apply RVal.cell1; exact rfl; exact rfl; apply RdN.own; (focus ((repeat (first | exact Has.here | apply Has.there)); done)); exact GetN.cons rfl GetN.nil)))) (by (repeat (first | exact Pick.nil | (apply Pick.cons; (focus ((repeat (first | exact Spl.here | apply Spl.there)); done))) | exact Pick.refl))) ?_
    exact ⟨r, none, cap, sp, rfl, rfl, so⟩

theorem clone_spec {M : View} {w : World} (hM : View.le M (View.of w)) {k N c : Nat} (hk : k ≤ 1000) {a : Option Addr} {b o : Nat} (s : SlA M (eK .u32) 1 a (wI k N) b o) :
    FnC Tryd.prog 26 [.slice a k c] w (WR k N) :=
  (cloneI_spec hM (wI_length k N) s (by rw [wI_length]; omega)).mono fun v new h => by
    obtain ⟨r, A, cap, sp, rfl, rfl, so⟩ := h
    rw [wI_length] at so ⊢
    exact ⟨r, A, cap, sp, rfl, rfl, so⟩
end Go.Proofs.YtjaeblkgjbncmaaDoor

/-
  Words: multiplied by a small number, divided by a small number; in plain words.
-/
namespace Go.Proofs.YtjaeblkgjbncmaaDoor
set_option maxRecDepth 20000
set_option linter.unusedSimpArgs false
set_option linter.unusedVariables false
/-- What is carried behind i words. -/
def ca (N f p i : Nat) : Nat := ((N % W ^ i) * f + p) / W ^ i
theorem W_pos : 0 < W := by decide
theorem ca_zero (N f p : Nat) : ca N f p 0 = p := by simp [ca, Nat.mod_one]
theorem ca_step (N f p i : Nat) : ((N % W ^ (i + 1)) * f + p) / W ^ i = N / W ^ i % W * f + ca N f p i := by
  unfold ca
  rw [Nat.mod_pow_succ, Nat.add_mul, Nat.mul_assoc, Nat.add_comm (_ * f) _, Nat.add_assoc, Nat.mul_add_div (Nat.pow_pos W_pos)]
theorem ca_succ (N f p i : Nat) : ca N f p (i + 1) = (N / W ^ i % W * f + ca N f p i) / W := by
  rw [← ca_step, Nat.div_div_eq_div_mul, ← Nat.pow_succ]
  rfl
theorem ca_word (N f p i : Nat) : (N * f + p) / W ^ i % W = (N / W ^ i % W * f + ca N f p i) % W := by
  rw [← ca_step]
  have e : N * f + p = W ^ i * (W * (N / W ^ (i + 1) * f)) + ((N % W ^ (i + 1)) * f + p) := by
    conv => lhs; rw [← Nat.div_add_mod N (W ^ (i + 1))]
    rw [Nat.add_mul, Nat.pow_succ, Nat.mul_assoc, Nat.mul_assoc, Nat.add_assoc]
  rw [e, Nat.mul_add_div (Nat.pow_pos W_pos), Nat.mul_add_mod]
theorem ca_le (N f p i : Nat) : ca N f p i ≤ f + p := by
  unfold ca
  have h1 : N % W ^ i < W ^ i := Nat.mod_lt _ (Nat.pow_pos W_pos)
  have hp : 1 ≤ W ^ i := Nat.pow_pos W_pos
  have h2 : N % W ^ i * f ≤ W ^ i * f := Nat.mul_le_mul_right _ (by omega)
  have h3 : p ≤ W ^ i * p := Nat.le_mul_of_pos_left _ hp
  refine Nat.div_le_of_le_mul ?_
  rw [Nat.mul_add]
  omega
theorem ca_end {N f p k : Nat} (h : N < W ^ k) : ca N f p k = (N * f + p) / W ^ k := by unfold ca; rw [Nat.mod_eq_of_lt h]
/-- The words of the product: so many as before, or one more. -/
theorem nd_tm {N f p : Nat} (hf : 1 ≤ f) (hfp : f + p < W) : nd W (N * f + p) = if 0 < ca N f p (nd W N) then nd W N + 1 else nd W N := by
  have hN := nd_lt (b := W) (by decide) N
  have he := ca_end (f := f) (p := p) hN
  have hle := ca_le N f p (nd W N)
  obtain ⟨k, hk⟩ : ∃ k, nd W N = k := ⟨_, rfl⟩
  rw [hk] at hN he hle ⊢
  have hpos : 0 < W ^ k := Nat.pow_pos W_pos
  split
  · rename_i hc
    rw [he] at hc hle
    refine nd_eq (by decide) ?_ fun _ => ?_
    · rw [Nat.pow_succ]
      have := (Nat.div_lt_iff_lt_mul hpos).1 (show (N * f + p) / W ^ k < W by omega)
      exact Nat.lt_of_lt_of_eq this (Nat.mul_comm _ _)
    · simp only [Nat.add_sub_cancel]
      rw [Nat.mod_eq_of_lt (by omega)]
      omega
  · rename_i hc
    rw [he] at hc
    have hlt : N * f + p < W ^ k := (Nat.div_eq_zero_iff_lt hpos).1 (by omega)
    refine Nat.le_antisymm (nd_le (by decide) hlt) ?_
    rw [← hk]
    exact nd_mono (by decide) (Nat.le_trans (Nat.le_mul_of_pos_right _ hf) (Nat.le_add_right _ _))
theorem wI_tm (N f p k : Nat) : wI (k + 1) (N * f + p) = wI k (N * f + p) ++ [(((N / W ^ k % W * f + ca N f p k) % W : Nat) : Int)] := by rw [wI_succ, ca_word]
theorem div_aux {A B r d w : Nat} (hd : 0 < d) (e1 : B = w * A + r) : (A % d * w + r) / d = B / d - A / d * w ∧ (A % d * w + r) % d = B % d := by
  have e2 : B = A % d * w + r + d * (A / d * w) := by
    have h3 : w * A = w * (d * (A / d) + A % d) := by rw [Nat.div_add_mod]
    rw [e1, h3, Nat.mul_add, Nat.mul_comm w (A % d), Nat.mul_comm w (d * _), Nat.mul_assoc]
    omega
  have e3 : B / d = (A % d * w + r) / d + A / d * w := by
    conv => lhs; rw [e2]
    rw [Nat.add_mul_div_left _ _ hd]
  have e4 : B % d = (A % d * w + r) % d := by
    conv => lhs; rw [e2]
    rw [Nat.add_mul_mod_self_left]
  exact ⟨Nat.eq_sub_of_add_eq e3.symm, e4.symm⟩
/-- What is left behind the upper words, from the k-th on. -/
theorem div_step {N d i : Nat} (hd : 0 < d) : (N / W ^ (i + 1) % d * W + N / W ^ i % W) / d = N / W ^ i / d - N / W ^ (i + 1) / d * W ∧ (N / W ^ (i + 1) % d * W + N / W ^ i % W) % d = N / W ^ i % d := by
  refine div_aux hd ?_
  rw [Nat.pow_succ, ← Nat.div_div_eq_div_mul]
  exact (Nat.div_add_mod _ _).symm
theorem div_word {N d i : Nat} (hd : 0 < d) (hdW : d ≤ W) : (N / W ^ (i + 1) % d * W + N / W ^ i % W) / d = N / d / W ^ i % W := by
  have h1 := (div_step (N := N) (i := i) hd).1
  have hlt : (N / W ^ (i + 1) % d * W + N / W ^ i % W) / d < W := by
    refine (Nat.div_lt_iff_lt_mul hd).2 ?_
    have h2 : N / W ^ (i + 1) % d < d := Nat.mod_lt _ hd
    have h3 : N / W ^ i % W < W := Nat.mod_lt _ W_pos
    have h4 : (N / W ^ (i + 1) % d + 1) * W ≤ d * W := Nat.mul_le_mul_right _ h2
    rw [Nat.add_mul, Nat.one_mul] at h4
    rw [Nat.mul_comm W d]
    omega
  have h5 : N / d / W ^ i = N / W ^ i / d := by rw [Nat.div_div_eq_div_mul, Nat.div_div_eq_div_mul, Nat.mul_comm]
  have h6 : N / W ^ (i + 1) / d = N / W ^ i / d / W := by rw [Nat.pow_succ, Nat.div_div_eq_div_mul, Nat.div_div_eq_div_mul, Nat.div_div_eq_div_mul, Nat.mul_assoc, Nat.mul_comm d W]
  rw [h5, ← Nat.mod_eq_of_lt hlt, h1, h6]
  have h7 := Nat.div_add_mod (N / W ^ i / d) W
  have h8 : W * (N / W ^ i / d / W) = N / W ^ i / d / W * W := Nat.mul_comm _ _
  rw [show N / W ^ i / d - N / W ^ i / d / W * W = N / W ^ i / d % W by omega, Nat.mod_mod]
end Go.Proofs.YtjaeblkgjbncmaaDoor

/-
  Words multiplied and divided by a small number: the reference's ways.
-/
namespace Go.Proofs.YtjaeblkgjbncmaaDoor
set_option maxRecDepth 20000
set_option linter.unusedSimpArgs false
set_option linter.unusedVariables false
open Go Go.Fw
structure TSt where
  i : Nat
  r : Option Nat
  c : Nat
  sp : List Value
theorem flat_wI (k N : Nat) : flat (eK .u32) (wI (k + 1) N) = flat (eK .u32) (wI k N) ++ [.int .u32 ((N / W ^ k % W : Nat) : Int)] := by rw [wI_succ, flat_append, flat_one]
theorem wrap32 (n : Nat) : IntKind.u32.wrap ((n : Nat) : Int) = ((n % W : Nat) : Int) := by rw [wrapU32]; exact (Int.natCast_emod n W).symm
theorem shr32 (n : Nat) : ((n : Nat) : Int) / 2 ^ (32 : Int).toNat = ((n / W : Nat) : Int) := (Int.natCast_ediv n W).symm
theorem ca_last {N f p k : Nat} (hf : 1 ≤ f) (hfp : f + p < W) (hk : nd W N = k) (h : ¬ 0 < ca N f p k) : nd W (N * f + p) = k := by
  have := nd_tm (N := N) (p := p) hf hfp
  rw [hk, if_neg h] at this
  exact this
theorem ca_more {N f p k : Nat} (hf : 1 ≤ f) (hfp : f + p < W) (hk : nd W N = k) (h : 0 < ca N f p k) : nd W (N * f + p) = k + 1 ∧ (N * f + p) / W ^ k % W = ca N f p k := by
  have := nd_tm (N := N) (p := p) hf hfp
  rw [hk, if_pos h] at this
  refine ⟨this, ?_⟩
  have hN := nd_lt (b := W) (by decide) N
  rw [hk] at hN
  rw [← ca_end hN]
  exact Nat.mod_eq_of_lt (Nat.lt_of_le_of_lt (ca_le N f p k) hfp)
end Go.Proofs.YtjaeblkgjbncmaaDoor
namespace Go.Proofs.YtjaeblkgjbncmaaDoor
set_option maxRecDepth 20000
set_option linter.unusedSimpArgs false
set_option linter.unusedVariables false
open Go Go.Fw
attribute [local irreducible] CW OL OD FX Stp FnC FnV Ret wI vd strOf ca
set_option maxHeartbeats 800000

theorem rtimes_spec {M : View} {w : World} (hM : View.le M (View.of w)) {N f p k c : Nat} (hf : 1 ≤ f ∧ f ≤ 256) (hp : p ≤ 256) (hkN : nd W N = k) (hk : k ≤ 100000) {a : Option Addr} {b o : Nat} (s : SlA M (eK .u32) 1 a (wI k N) b o) :
    FnC Tryd.prog 36 [.slice a k c, .int .u64 f, .int .u64 p] w (WR (nd W (N * f + p)) (N * f + p)) := by
  refine enterF (M := M) Tryd.func36 rfl rfl rfl rfl hM ?_
  refine cw_none 51 ?_
  repeat' first
    | apply cw_seq
    | (refine cw_region_id 0 ?_; (apply ol_as; exact rfl; exact rfl); (apply ol_nil))
    | (refine cw_region_id 1 ?_; (apply ol_as; exact rfl; exact rfl); (apply ol_nil))
    | (refine cw_region_id 2 ?_; (apply ol_mv; exact rfl; exact rfl); (apply ol_as; exact rfl; exact rfl); (apply ol_nil))
    | (refine cw_region_id 3 ?_; (apply ol_as; exact rfl; exact rfl); (apply ol_nil))
    | (apply cw_cond_true; exact rfl; (first | exact rfl | assumption))
    | (apply cw_cond_false; exact rfl; (first | exact rfl | assumption))
    | apply cw_skip
    | apply cw_ret
    | apply cw_block
    | apply cw_exit
  have hfp : f + p < W := by have : W = 4294967296 := rfl; omega
  refine cw_loopK (σ := TSt) [0, 1] (by (repeat (first | exact Keep.nil | (apply Keep.cons; exact rfl)))) (fun s => [(7, .slice (base s.r none) s.i s.c), (8, .int .u64 (ca N f p s.i : Nat)), (9, .int .i64 s.i)]) (fun _ => M) (fun s => [⟨s.r, flat (eK .u32) (wI s.i (N * f + p)) ++ s.sp, 51⟩]) (fun s => s.i ≤ k ∧ SO s.r s.i s.c (flat (eK .u32) (wI s.i (N * f + p))) s.sp 1) (fun s => k - s.i) ⟨0, none, 0, []⟩ (by dsimp only; rw [ca_zero]; (repeat (first | exact trivial | refine And.intro rfl ?_))) (View.le.refl _) (by dsimp only; rw [wI_zero]; (repeat (first | exact Pick.nil | (apply Pick.cons; (focus ((repeat (first | exact Spl.here | apply Spl.there)); done))) | exact Pick.refl))) ⟨Nat.zero_le _, by dsimp only; rw [wI_zero]; exact SO.nil 1⟩ ?_
  rintro ⟨i, r, cp, sp⟩ ⟨hi, so⟩
  dsimp only at hi so
  dsimp only
  by_cases hik : i < k
  · have hl : i < (wI k N).length := by rw [wI_length]; omega
    have hc := s.cells i hl
    rw [wI_get hl] at hc
    have hfl := flat_wI i (N * f + p)
    have hcs := ca_succ N f p i
    have hcl := ca_le N f p i
    rw [ca_word] at hfl
    have hX : N / W ^ i % W < W := Nat.mod_lt _ W_pos
    generalize N / W ^ i % W = X at *
    generalize ca N f p i = Y at *
    generalize wI i (N * f + p) = A at *
    have hmul : ((X : Nat) : Int) * ((f : Nat) : Int) = ((X * f : Nat) : Int) := (Int.natCast_mul X f).symm
    have hXf : X * f ≤ 4294967296 * 256 := Nat.mul_le_mul (Nat.le_of_lt hX) hf.2
    have hX32 : X < 4294967296 := hX
    generalize X * f = Z at *
    have e32 := wrap32 (Z + Y)
    have es := shr32 (Z + Y)
    rw [Int.natCast_add] at e32 es
    rw [← hcs] at es
    repeat' first
      | apply cw_seq
      | (refine cw_region_id 4 ?_; (apply ol_mv; exact rfl; exact rfl); (apply ol_mv; exact rfl; exact rfl); (apply ol_val; exact rfl; apply stp_pur; apply s_len; exact rfl; exact el_23); (apply ol_val; exact rfl; apply stp_cmp; apply s_lss; exact rfl; exact rfl; all_goals (intro hc15; try (exfalso; (first | exact hc15 rfl | omega)))); all_goals (apply ol_nil))
      | (refine cw_region_id 6 ?_; (apply ol_mv; exact rfl; exact rfl); (apply ol_mv; exact rfl; exact rfl); (apply ol_val; exact rfl; apply stp_pur; first | (apply s_indexK; exact rfl; exact rfl; exact el_23; exact sz_51; (first | exact rfl | exact s.at_ (by rw [wI_length]; omega)); omega) | (apply s_indexO; exact rfl; exact rfl; exact el_23; exact sz_51; (first | exact rfl | exact s.at_ (by rw [wI_length]; omega)); omega)); (apply ol_ld; exact rfl; exact rfl; exact rfl; (first | (apply RdN.own; (focus ((repeat constructor); done)); (first | exact GetN.cons rfl GetN.nil | (apply getN_ints_app; (first | omega | (simp; omega) | (simp; done))) | (apply getN_ints; (first | omega | (simp; omega) | (simp; done))))) | (apply RdN.view; exact hc))); (apply ol_val; exact rfl; apply stp_pur; first | (apply s_conv; exact rfl; exact rfl; exact ti_41; (focus (apply wrap_u64; omega))) | (apply s_conv; exact rfl; exact rfl; exact ti_41; exact e32) | (apply s_conv; exact rfl; exact rfl; exact ti_41; exact rfl)); (apply ol_mv; exact rfl; exact rfl); (apply ol_val; exact rfl; apply stp_pur; apply s_mulE; exact rfl; exact rfl; exact hmul; (dsimp only [lowK, highK]; omega)); (apply ol_mv; exact rfl; exact rfl); (apply ol_val; exact rfl; apply stp_pur; first | (apply s_addF; exact rfl; exact rfl; (first | (dsimp only [lowK, highK]; omega))) | (apply s_addW; exact rfl; exact rfl)); (apply ol_as; exact rfl; exact rfl); (apply ol_nil))
      | (refine cw_region_id 7 ?_; (apply ol_mv; exact rfl; exact rfl); (apply ol_mv; exact rfl; exact rfl); (apply ol_val; exact rfl; apply stp_pur; first | (apply s_conv; exact rfl; exact rfl; exact ti_51; (focus (apply wrap_u32; omega))) | (apply s_conv; exact rfl; exact rfl; exact ti_51; exact e32) | (apply s_conv; exact rfl; exact rfl; exact ti_51; exact rfl)); (apply ol_val; exact rfl; apply s_buildSl; exact rfl; exact el_23; exact sz_51; exact zb_51; (focus ((repeat constructor); done)); exact rfl; exact rfl; (exact Nat.le_of_ble_eq_true rfl); (focus ((repeat constructor); done)); (focus ((repeat (first | exact rfl | constructor)); done)); intro bk30); (apply ol_val; exact rfl; first | (apply s_append_e; exact rfl; exact rfl; (focus ((repeat constructor); done)); exact el_23; exact sz_51; exact zb_51; exact rfl; exact by_51; (first | exact (fun _ => rfl) | (intro _; exact s.at_ (by rw [wI_length]; omega))); (first | (apply RdN.own; (focus ((repeat constructor); done)); (focus ((repeat (first | exact rfl | constructor)); done)))); (first | exact rfl); (first | omega | (simp; omega) | (simp; done)); (first | omega | (simp; omega) | (simp; done)); intro rk31 sk31 ck31 ok31) | (apply s_append_r; exact rfl; exact rfl; (focus ((repeat constructor); done)); (first | exact rfl | exact (List.append_nil _).symm); exact el_23; exact sz_51; exact zb_51; exact rfl; exact by_51; (first | exact SO.nil _ | assumption | (exact ⟨by simp, by simp, Nat.le_refl _, by simp⟩)); (first | exact (fun _ => rfl) | (intro _; exact s.at_ (by rw [wI_length]; omega))); (first | (apply RdN.own; (focus ((repeat constructor); done)); (focus ((repeat (first | exact rfl | constructor)); done)))); (first | exact rfl); (first | omega | (simp; omega) | (simp; done)); (first | omega | (simp; omega) | (simp; done)); intro rk31 sk31 ck31 ok31) | (apply s_append_b; exact rfl; exact rfl; (focus ((repeat constructor); done)); (first | exact rfl | exact (List.append_nil _).symm); exact el_23; exact sz_51; exact zb_51; exact rfl; exact by_51; (first | exact SO.nil _ | assumption | (exact ⟨by simp, by simp, Nat.le_refl _, by simp⟩)); (first | exact (fun _ => rfl) | (intro _; exact s.at_ (by rw [wI_length]; omega))); (first | (apply RdN.own; (focus ((repeat constructor); done)); (focus ((repeat (first | exact rfl | constructor)); done)))); (first | exact rfl); (first | omega | (simp; omega) | (simp; done)); (first | omega | (simp; omega) | (simp; done)); intro rk31 sk31 ck31 ok31) | (apply s_append_n; exact rfl; exact rfl; (focus ((repeat constructor); done)); exact el_23; exact sz_51; exact zb_51; exact rfl; exact by_51; (first | exact (fun _ => rfl) | (intro _; exact s.at_ (by rw [wI_length]; omega))); (first | (apply RdN.own; (focus ((repeat constructor); done)); (focus ((repeat (first | exact rfl | constructor)); done)))); (first | exact rfl); (first | omega | (simp; omega) | (simp; done)); (first | omega | (simp; omega) | (simp; done)); intro rk31 sk31 ck31 ok31)); (apply ol_as; exact rfl; exact rfl); (apply ol_nil))
      | (refine cw_region_id 8 ?_; (apply ol_mv; exact rfl; exact rfl); (apply ol_val; exact rfl; apply stp_pur; apply s_shrE; exact rfl; exact rfl; (first | decide | omega | (simp [IntKind.bits]; omega) | (simp [IntKind.bits]; done)); exact es); (apply ol_as; exact rfl; exact rfl); (apply ol_nil))
      | (refine cw_region_id 5 ?_; (apply ol_mv; exact rfl; exact rfl); (apply ol_val; exact rfl; apply stp_pur; apply s_add64; exact rfl; exact rfl; omega); (apply ol_as; exact rfl; exact rfl); (apply ol_nil))
      | (refine cw_region_id 9 ?_; (apply ol_mv; exact rfl; exact rfl); (apply ol_val; exact rfl; apply stp_cmp; apply s_gtr; exact rfl; exact rfl; all_goals (intro hc35; try (exfalso; (first | exact hc35 rfl | omega)))); all_goals (apply ol_nil))
      | (refine cw_region_id 10 ?_; (apply ol_mv; exact rfl; exact rfl); (apply ol_mv; exact rfl; exact rfl); (apply ol_val; exact rfl; apply stp_pur; first | (apply s_conv; exact rfl; exact rfl; exact ti_51; (focus (apply wrap_u32; omega))) | (apply s_conv; exact rfl; exact rfl; exact ti_51; exact e32) | (apply s_conv; exact rfl; exact rfl; exact ti_51; exact rfl)); (apply ol_val; exact rfl; apply s_buildSl; exact rfl; exact el_23; exact sz_51; exact zb_51; (focus ((repeat constructor); done)); exact rfl; exact rfl; (exact Nat.le_of_ble_eq_true rfl); (focus ((repeat constructor); done)); (focus ((repeat (first | exact rfl | constructor)); done)); intro bk39); (apply ol_val; exact rfl; first | (apply s_append_e; exact rfl; exact rfl; (focus ((repeat constructor); done)); exact el_23; exact sz_51; exact zb_51; exact rfl; exact by_51; (first | exact (fun _ => rfl) | (intro _; exact s.at_ (by rw [wI_length]; omega))); (first | (apply RdN.own; (focus ((repeat constructor); done)); (focus ((repeat (first | exact rfl | constructor)); done)))); (first | exact rfl); (first | omega | (simp; omega) | (simp; done)); (first | omega | (simp; omega) | (simp; done)); intro rk40 sk40 ck40 ok40) | (apply s_append_r; exact rfl; exact rfl; (focus ((repeat constructor); done)); (first | exact rfl | exact (List.append_nil _).symm); exact el_23; exact sz_51; exact zb_51; exact rfl; exact by_51; (first | exact SO.nil _ | assumption | (exact ⟨by simp, by simp, Nat.le_refl _, by simp⟩)); (first | exact (fun _ => rfl) | (intro _; exact s.at_ (by rw [wI_length]; omega))); (first | (apply RdN.own; (focus ((repeat constructor); done)); (focus ((repeat (first | exact rfl | constructor)); done)))); (first | exact rfl); (first | omega | (simp; omega) | (simp; done)); (first | omega | (simp; omega) | (simp; done)); intro rk40 sk40 ck40 ok40) | (apply s_append_b; exact rfl; exact rfl; (focus ((repeat constructor); done)); (first | exact rfl | exact (List.append_nil _).symm); exact el_23; exact sz_51; exact zb_51; exact rfl; exact by_51; (first | exact SO.nil _ | assumption | (exact ⟨by simp, by simp, Nat.le_refl _, by simp⟩)); (first | exact (fun _ => rfl) | (intro _; exact s.at_ (by rw [wI_length]; omega))); (first | (apply RdN.own; (focus ((repeat constructor); done)); (focus ((repeat (first | exact rfl | constructor)); done)))); (first | exact rfl); (first | omega | (simp; omega) | (simp; done)); (first | omega | (simp; omega) | (simp; done)); intro rk40 sk40 ck40 ok40) | (apply s_append_n; exact rfl; exact rfl; (focus ((repeat constructor); done)); exact el_23; exact sz_51; exact zb_51; exact rfl; exact by_51; (first | exact (fun _ => rfl) | (intro _; exact s.at_ (by rw [wI_length]; omega))); (first | (apply RdN.own; (focus ((repeat constructor); done)); (focus ((repeat (first | exact rfl | constructor)); done)))); (first | exact rfl); (first | omega | (simp; omega) | (simp; done)); (first | omega | (simp; omega) | (simp; done)); intro rk40 sk40 ck40 ok40)); (apply ol_as; exact rfl; exact rfl); (apply ol_nil))
      | (refine cw_region_id 11 ?_; (apply ol_mv; exact rfl; exact rfl); (apply ol_as; exact rfl; exact rfl); (apply ol_nil))
      | (apply cw_cond_true; exact rfl; (first | exact rfl | assumption))
      | (apply cw_cond_false; exact rfl; (first | exact rfl | assumption))
      | apply cw_skip
      | apply cw_ret
      | apply cw_block
      | apply cw_exit
    refine ⟨⟨i + 1, rk31, ck31, sk31⟩, ⟨by (repeat (first | exact trivial | refine And.intro rfl ?_)), View.le.refl _, ?_, ⟨hik, ?_⟩, by dsimp only; omega⟩⟩
    · dsimp only
      rw [hfl]
      (repeat (first | exact Pick.nil | (apply Pick.cons; (focus ((repeat (first | exact Spl.here | apply Spl.there)); done))) | exact Pick.refl))
    · dsimp only
      rw [hfl]
      exact ok31
  · obtain rfl : i = k := by omega
    have hcl := ca_le N f p i
    by_cases hca : 0 < ca N f p i
    · obtain ⟨h1, h2⟩ := ca_more hf.1 hfp hkN hca
      rw [h1]
      have hfl := flat_wI i (N * f + p)
      rw [h2] at hfl
      generalize ca N f p i = Y at *
      generalize wI i (N * f + p) = A at *
      have e32 : IntKind.u32.wrap ((Y : Nat) : Int) = ((Y : Nat) : Int) := wrap_u32 (by have : W = 4294967296 := rfl; omega)
      repeat' first
        | apply cw_seq
        | (refine cw_region_id 4 ?_; (apply ol_mv; exact rfl; exact rfl); (apply ol_mv; exact rfl; exact rfl); (apply ol_val; exact rfl; apply stp_pur; apply s_len; exact rfl; exact el_23); (apply ol_val; exact rfl; apply stp_cmp; apply s_lss; exact rfl; exact rfl; all_goals (intro hc15; try (exfalso; (first | exact hc15 rfl | omega)))); all_goals (apply ol_nil))
        | (refine cw_region_id 6 ?_; (apply ol_mv; exact rfl; exact rfl); (apply ol_mv; exact rfl; exact rfl); (apply ol_val; exact rfl; apply stp_pur; first | (apply s_indexK; exact rfl; exact rfl; exact el_23; exact sz_51; (first | exact rfl); omega) | (apply s_indexO; exact rfl; exact rfl; exact el_23; exact sz_51; (first | exact rfl); omega)); (apply ol_ld; exact rfl; exact rfl; exact rfl; (apply RdN.own; (focus ((repeat constructor); done)); (first | exact GetN.cons rfl GetN.nil | (apply getN_ints_app; (first | omega | (simp; omega) | (simp; done))) | (apply getN_ints; (first | omega | (simp; omega) | (simp; done)))))); (apply ol_val; exact rfl; apply stp_pur; first | (apply s_conv; exact rfl; exact rfl; exact ti_41; (focus (apply wrap_u64; omega))) | (apply s_conv; exact rfl; exact rfl; exact ti_41; exact e32) | (apply s_conv; exact rfl; exact rfl; exact ti_41; exact rfl)); (apply ol_mv; exact rfl; exact rfl); (apply ol_val; exact rfl; apply stp_pur; apply s_mulW; exact rfl; exact rfl); (apply ol_mv; exact rfl; exact rfl); (apply ol_val; exact rfl; apply stp_pur; apply s_addW; exact rfl; exact rfl); (apply ol_as; exact rfl; exact rfl); (apply ol_nil))
        | (refine cw_region_id 7 ?_; (apply ol_mv; exact rfl; exact rfl); (apply ol_mv; exact rfl; exact rfl); (apply ol_val; exact rfl; apply stp_pur; first | (apply s_conv; exact rfl; exact rfl; exact ti_51; (focus (apply wrap_u32; omega))) | (apply s_conv; exact rfl; exact rfl; exact ti_51; exact e32) | (apply s_conv; exact rfl; exact rfl; exact ti_51; exact rfl)); (apply ol_val; exact rfl; apply s_buildSl; exact rfl; exact el_23; exact sz_51; exact zb_51; (focus ((repeat constructor); done)); exact rfl; exact rfl; (exact Nat.le_of_ble_eq_true rfl); (focus ((repeat constructor); done)); (focus ((repeat (first | exact rfl | constructor)); done)); intro bk30); (apply ol_val; exact rfl; first | (apply s_append_e; exact rfl; exact rfl; (focus ((repeat constructor); done)); exact el_23; exact sz_51; exact zb_51; exact rfl; exact by_51; (first | exact (fun _ => rfl)); (first | (apply RdN.own; (focus ((repeat constructor); done)); (focus ((repeat (first | exact rfl | constructor)); done)))); (first | exact rfl); (first | omega | (simp; omega) | (simp; done)); (first | omega | (simp; omega) | (simp; done)); intro rk31 sk31 ck31 ok31) | (apply s_append_r; exact rfl; exact rfl; (focus ((repeat constructor); done)); (first | exact rfl | exact (List.append_nil _).symm); exact el_23; exact sz_51; exact zb_51; exact rfl; exact by_51; (first | exact SO.nil _ | assumption | (exact ⟨by simp, by simp, Nat.le_refl _, by simp⟩)); (first | exact (fun _ => rfl)); (first | (apply RdN.own; (focus ((repeat constructor); done)); (focus ((repeat (first | exact rfl | constructor)); done)))); (first | exact rfl); (first | omega | (simp; omega) | (simp; done)); (first | omega | (simp; omega) | (simp; done)); intro rk31 sk31 ck31 ok31) | (apply s_append_b; exact rfl; exact rfl; (focus ((repeat constructor); done)); (first | exact rfl | exact (List.append_nil _).symm); exact el_23; exact sz_51; exact zb_51; exact rfl; exact by_51; (first | exact SO.nil _ | assumption | (exact ⟨by simp, by simp, Nat.le_refl _, by simp⟩)); (first | exact (fun _ => rfl)); (first | (apply RdN.own; (focus ((repeat constructor); done)); (focus ((repeat (first | exact rfl | constructor)); done)))); (first | exact rfl); (first | omega | (simp; omega) | (simp; done)); (first | omega | (simp; omega) | (simp; done)); intro rk31 sk31 ck31 ok31) | (apply s_append_n; exact rfl; exact rfl; (focus ((repeat constructor); done)); exact el_23; exact sz_51; exact zb_51; exact rfl; exact by_51; (first | exact (fun _ => rfl)); (first | (apply RdN.own; (focus ((repeat constructor); done)); (focus ((repeat (first | exact rfl | constructor)); done)))); (first | exact rfl); (first | omega | (simp; omega) | (simp; done)); (first | omega | (simp; omega) | (simp; done)); intro rk31 sk31 ck31 ok31)); (apply ol_as; exact rfl; exact rfl); (apply ol_nil))
        | (refine cw_region_id 8 ?_; (apply ol_mv; exact rfl; exact rfl); (apply ol_val; exact rfl; apply stp_pur; apply s_shr; exact rfl; exact rfl; (first | decide | omega | (simp [IntKind.bits]; omega) | (simp [IntKind.bits]; done))); (apply ol_as; exact rfl; exact rfl); (apply ol_nil))
        | (refine cw_region_id 5 ?_; (apply ol_mv; exact rfl; exact rfl); (apply ol_val; exact rfl; apply stp_pur; apply s_add64; exact rfl; exact rfl; omega); (apply ol_as; exact rfl; exact rfl); (apply ol_nil))
        | (refine cw_region_id 9 ?_; (apply ol_mv; exact rfl; exact rfl); (apply ol_val; exact rfl; apply stp_cmp; apply s_gtr; exact rfl; exact rfl; all_goals (intro hc35; try (exfalso; (first | exact hc35 rfl | omega)))); all_goals (apply ol_nil))
        | (refine cw_region_id 10 ?_; (apply ol_mv; exact rfl; exact rfl); (apply ol_mv; exact rfl; exact rfl); (apply ol_val; exact rfl; apply stp_pur; first | (apply s_conv; exact rfl; exact rfl; exact ti_51; (focus (apply wrap_u32; omega))) | (apply s_conv; exact rfl; exact rfl; exact ti_51; exact e32) | (apply s_conv; exact rfl; exact rfl; exact ti_51; exact rfl)); (apply ol_val; exact rfl; apply s_buildSl; exact rfl; exact el_23; exact sz_51; exact zb_51; (focus ((repeat constructor); done)); exact rfl; exact rfl; (exact Nat.le_of_ble_eq_true rfl); (focus ((repeat constructor); done)); (focus ((repeat (first | exact rfl | constructor)); done)); intro bk39); (apply ol_val; exact rfl; first | (apply s_append_e; exact rfl; exact rfl; (focus ((repeat constructor); done)); exact el_23; exact sz_51; exact zb_51; exact rfl; exact by_51; (first | exact (fun _ => rfl)); (first | (apply RdN.own; (focus ((repeat constructor); done)); (focus ((repeat (first | exact rfl | constructor)); done)))); (first | exact rfl); (first | omega | (simp; omega) | (simp; done)); (first | omega | (simp; omega) | (simp; done)); intro rk40 sk40 ck40 ok40) | (apply s_append_r; exact rfl; exact rfl; (focus ((repeat constructor); done)); (first | exact rfl | exact (List.append_nil _).symm); exact el_23; exact sz_51; exact zb_51; exact rfl; exact by_51; (first | exact SO.nil _ | assumption | (exact ⟨by simp, by simp, Nat.le_refl _, by simp⟩)); (first | exact (fun _ => rfl)); (first | (apply RdN.own; (focus ((repeat constructor); done)); (focus ((repeat (first | exact rfl | constructor)); done)))); (first | exact rfl); (first | omega | (simp; omega) | (simp; done)); (first | omega | (simp; omega) | (simp; done)); intro rk40 sk40 ck40 ok40) | (apply s_append_b; exact rfl; exact rfl; (focus ((repeat constructor); done)); (first | exact rfl | exact (List.append_nil _).symm); exact el_23; exact sz_51; exact zb_51; exact rfl; exact by_51; (first | exact SO.nil _ | assumption | (exact ⟨by simp, by simp, Nat.le_refl _, by simp⟩)); (first | exact (fun _ => rfl)); (first | (apply RdN.own; (focus ((repeat constructor); done)); (focus ((repeat (first | exact rfl | constructor)); done)))); (first | exact rfl); (first | omega | (simp; omega) | (simp; done)); (first | omega | (simp; omega) | (simp; done)); intro rk40 sk40 ck40 ok40) | (apply s_append_n; exact rfl; exact rfl; (focus ((repeat constructor); done)); exact el_23; exact sz_51; exact zb_51; exact rfl; exact by_51; (first | exact (fun _ => rfl)); (first | (apply RdN.own; (focus ((repeat constructor); done)); (focus ((repeat (first | exact rfl | constructor)); done)))); (first | exact rfl); (first | omega | (simp; omega) | (simp; done)); (first | omega | (simp; omega) | (simp; done)); intro rk40 sk40 ck40 ok40)); (apply ol_as; exact rfl; exact rfl); (apply ol_nil))
        | (refine cw_region_id 11 ?_; (apply ol_mv; exact rfl; exact rfl); (apply ol_as; exact rfl; exact rfl); (apply ol_nil))
        | (apply cw_cond_true; exact rfl; (first | exact rfl | assumption))
        | (apply cw_cond_false; exact rfl; (first | exact rfl | assumption))
        | apply cw_skip
        | apply cw_ret
        | apply cw_block
        | apply cw_exit
      refine ends [⟨rk40, flat (eK .u32) (wI (i + 1) (N * f + p)) ++ sk40, 51⟩] (RVal.tmp rfl RVal.nil) (by rw [hfl]; (repeat (first | exact Pick.nil | (apply Pick.cons; (focus ((repeat (first | exact Spl.here | apply Spl.there)); done))) | exact Pick.refl))) ?_
      exact ⟨rk40, none, ck40, sk40, rfl, rfl, by rw [hfl]; exact ok40⟩
    · have h1 := ca_last hf.1 hfp hkN hca
      rw [h1]
      have h0 : ca N f p i = 0 := by omega
      rw [h0]
      repeat' first
        | apply cw_seq
        | (refine cw_region_id 4 ?_; (apply ol_mv; exact rfl; exact rfl); (apply ol_mv; exact rfl; exact rfl); (apply ol_val; exact rfl; apply stp_pur; apply s_len; exact rfl; exact el_23); (apply ol_val; exact rfl; apply stp_cmp; apply s_lss; exact rfl; exact rfl; all_goals (intro hc15; try (exfalso; (first | exact hc15 rfl | omega)))); all_goals (apply ol_nil))
        | (refine cw_region_id 6 ?_; (apply ol_mv; exact rfl; exact rfl); (apply ol_mv; exact rfl; exact rfl); (apply ol_val; exact rfl; apply stp_pur; first | (apply s_indexK; exact rfl; exact rfl; exact el_23; exact sz_51; (first | exact rfl); omega) | (apply s_indexO; exact rfl; exact rfl; exact el_23; exact sz_51; (first | exact rfl); omega)); (apply ol_ld; exact rfl; exact rfl; exact rfl; (apply RdN.own; (focus ((repeat constructor); done)); (first | exact GetN.cons rfl GetN.nil | (apply getN_ints_app; (first | omega | (simp; omega) | (simp; done))) | (apply getN_ints; (first | omega | (simp; omega) | (simp; done)))))); (apply ol_val; exact rfl; apply stp_pur; first | (apply s_conv; exact rfl; exact rfl; exact ti_41; (focus (apply wrap_u64; omega))) | (apply s_conv; exact rfl; exact rfl; exact ti_41; exact rfl)); (apply ol_mv; exact rfl; exact rfl); (apply ol_val; exact rfl; apply stp_pur; apply s_mulW; exact rfl; exact rfl); (apply ol_mv; exact rfl; exact rfl); (apply ol_val; exact rfl; apply stp_pur; apply s_addW; exact rfl; exact rfl); (apply ol_as; exact rfl; exact rfl); (apply ol_nil))
        | (refine cw_region_id 7 ?_; (apply ol_mv; exact rfl; exact rfl); (apply ol_mv; exact rfl; exact rfl); (apply ol_val; exact rfl; apply stp_pur; first | (apply s_conv; exact rfl; exact rfl; exact ti_51; (focus (apply wrap_u32; omega))) | (apply s_conv; exact rfl; exact rfl; exact ti_51; exact rfl)); (apply ol_val; exact rfl; apply s_buildSl; exact rfl; exact el_23; exact sz_51; exact zb_51; (focus ((repeat constructor); done)); exact rfl; exact rfl; (exact Nat.le_of_ble_eq_true rfl); (focus ((repeat constructor); done)); (focus ((repeat (first | exact rfl | constructor)); done)); intro bk30); (apply ol_val; exact rfl; first | (apply s_append_e; exact rfl; exact rfl; (focus ((repeat constructor); done)); exact el_23; exact sz_51; exact zb_51; exact rfl; exact by_51; (first | exact (fun _ => rfl)); (first | (apply RdN.own; (focus ((repeat constructor); done)); (focus ((repeat (first | exact rfl | constructor)); done)))); (first | exact rfl); (first | omega | (simp; omega) | (simp; done)); (first | omega | (simp; omega) | (simp; done)); intro rk31 sk31 ck31 ok31) | (apply s_append_r; exact rfl; exact rfl; (focus ((repeat constructor); done)); (first | exact rfl | exact (List.append_nil _).symm); exact el_23; exact sz_51; exact zb_51; exact rfl; exact by_51; (first | exact SO.nil _ | assumption | (exact ⟨by simp, by simp, Nat.le_refl _, by simp⟩)); (first | exact (fun _ => rfl)); (first | (apply RdN.own; (focus ((repeat constructor); done)); (focus ((repeat (first | exact rfl | constructor)); done)))); (first | exact rfl); (first | omega | (simp; omega) | (simp; done)); (first | omega | (simp; omega) | (simp; done)); intro rk31 sk31 ck31 ok31) | (apply s_append_b; exact rfl; exact rfl; (focus ((repeat constructor); done)); (first | exact rfl | exact (List.append_nil _).symm); exact el_23; exact sz_51; exact zb_51; exact rfl; exact by_51; (first | exact SO.nil _ | assumption | (exact ⟨by simp, by simp, Nat.le_refl _, by simp⟩)); (first | exact (fun _ => rfl)); (first | (apply RdN.own; (focus ((repeat constructor); done)); (focus ((repeat (first | exact rfl | constructor)); done)))); (first | exact rfl); (first | omega | (simp; omega) | (simp; done)); (first | omega | (simp; omega) | (simp; done)); intro rk31 sk31 ck31 ok31) | (apply s_append_n; exact rfl; exact rfl; (focus ((repeat constructor); done)); exact el_23; exact sz_51; exact zb_51; exact rfl; exact by_51; (first | exact (fun _ => rfl)); (first | (apply RdN.own; (focus ((repeat constructor); done)); (focus ((repeat (first | exact rfl | constructor)); done)))); (first | exact rfl); (first | omega | (simp; omega) | (simp; done)); (first | omega | (simp; omega) | (simp; done)); intro rk31 sk31 ck31 ok31)); (apply ol_as; exact rfl; exact rfl); (apply ol_nil))
        | (refine cw_region_id 8 ?_; (apply ol_mv; exact rfl; exact rfl); (apply ol_val; exact rfl; apply stp_pur; apply s_shr; exact rfl; exact rfl; (first | decide | omega | (simp [IntKind.bits]; omega) | (simp [IntKind.bits]; done))); (apply ol_as; exact rfl; exact rfl); (apply ol_nil))
        | (refine cw_region_id 5 ?_; (apply ol_mv; exact rfl; exact rfl); (apply ol_val; exact rfl; apply stp_pur; apply s_add64; exact rfl; exact rfl; omega); (apply ol_as; exact rfl; exact rfl); (apply ol_nil))
        | (refine cw_region_id 9 ?_; (apply ol_mv; exact rfl; exact rfl); (apply ol_val; exact rfl; apply stp_cmp; apply s_gtr; exact rfl; exact rfl; all_goals (intro hc35; try (exfalso; (first | exact hc35 rfl | omega)))); all_goals (apply ol_nil))
        | (refine cw_region_id 10 ?_; (apply ol_mv; exact rfl; exact rfl); (apply ol_mv; exact rfl; exact rfl); (apply ol_val; exact rfl; apply stp_pur; first | (apply s_conv; exact rfl; exact rfl; exact ti_51; (focus (apply wrap_u32; omega))) | (apply s_conv; exact rfl; exact rfl; exact ti_51; exact rfl)); (apply ol_val; exact rfl; apply s_buildSl; exact rfl; exact el_23; exact sz_51; exact zb_51; (focus ((repeat constructor); done)); exact rfl; exact rfl; (exact Nat.le_of_ble_eq_true rfl); (focus ((repeat constructor); done)); (focus ((repeat (first | exact rfl | constructor)); done)); intro bk39); (apply ol_val; exact rfl; first | (apply s_append_e; exact rfl; exact rfl; (focus ((repeat constructor); done)); exact el_23; exact sz_51; exact zb_51; exact rfl; exact by_51; (first | exact (fun _ => rfl)); (first | (apply RdN.own; (focus ((repeat constructor); done)); (focus ((repeat (first | exact rfl | constructor)); done)))); (first | exact rfl); (first | omega | (simp; omega) | (simp; done)); (first | omega | (simp; omega) | (simp; done)); intro rk40 sk40 ck40 ok40) | (apply s_append_r; exact rfl; exact rfl; (focus ((repeat constructor); done)); (first | exact rfl | exact (List.append_nil _).symm); exact el_23; exact sz_51; exact zb_51; exact rfl; exact by_51; (first | exact SO.nil _ | assumption | (exact ⟨by simp, by simp, Nat.le_refl _, by simp⟩)); (first | exact (fun _ => rfl)); (first | (apply RdN.own; (focus ((repeat constructor); done)); (focus ((repeat (first | exact rfl | constructor)); done)))); (first | exact rfl); (first | omega | (simp; omega) | (simp; done)); (first | omega | (simp; omega) | (simp; done)); intro rk40 sk40 ck40 ok40) | (apply s_append_b; exact rfl; exact rfl; (focus ((repeat constructor); done)); (first | exact rfl | exact (List.append_nil _).symm); exact el_23; exact sz_51; exact zb_51; exact rfl; exact by_51; (first | exact SO.nil _ | assumption | (exact ⟨by simp, by simp, Nat.le_refl _, by simp⟩)); (first | exact (fun _ => rfl)); (first | (apply RdN.own; (focus ((repeat constructor); done)); (focus ((repeat (first | exact rfl | constructor)); done)))); (first | exact rfl); (first | omega | (simp; omega) | (simp; done)); (first | omega | (simp; omega) | (simp; done)); intro rk40 sk40 ck40 ok40) | (apply s_append_n; exact rfl; exact rfl; (focus ((repeat constructor); done)); exact el_23; exact sz_51; exact zb_51; exact rfl; exact by_51; (first | exact (fun _ => rfl)); (first | (apply RdN.own; (focus ((repeat constructor); done)); (focus ((repeat (first | exact rfl | constructor)); done)))); (first | exact rfl); (first | omega | (simp; omega) | (simp; done)); (first | omega | (simp; omega) | (simp; done)); intro rk40 sk40 ck40 ok40)); (apply ol_as; exact rfl; exact rfl); (apply ol_nil))
        | (refine cw_region_id 11 ?_; (apply ol_mv; exact rfl; exact rfl); (apply ol_as; exact rfl; exact rfl); (apply ol_nil))
        | (apply cw_cond_true; exact rfl; (first | exact rfl | assumption))
        | (apply cw_cond_false; exact rfl; (first | exact rfl | assumption))
        | apply cw_skip
        | apply cw_ret
        | apply cw_block
        | apply cw_exit
      refine ends [⟨r, flat (eK .u32) (wI i (N * f + p)) ++ sp, 51⟩] (RVal.tmp rfl RVal.nil) (by (repeat (first | exact Pick.nil | (apply Pick.cons; (focus ((repeat (first | exact Spl.here | apply Spl.there)); done))) | exact Pick.refl))) ?_
      exact ⟨r, none, cp, sp, rfl, rfl, so⟩
end Go.Proofs.YtjaeblkgjbncmaaDoor

/-
  Words multiplied by a small number in place, where it is called.
-/
namespace Go.Proofs.YtjaeblkgjbncmaaDoor
set_option maxRecDepth 20000
set_option linter.unusedSimpArgs false
set_option linter.unusedVariables false
open Go Go.Fw
/-- The row in the middle of the loop. -/
def mid (k N T i : Nat) : List Int := wI i T ++ (wI k N).drop i
theorem mid_length {k N T i : Nat} (h : i ≤ k) : (mid k N T i).length = k := by unfold mid; rw [List.length_append, List.length_drop, wI_length, wI_length]; omega
theorem mid_zero (k N T : Nat) : mid k N T 0 = wI k N := by unfold mid; rw [wI_zero]; rfl
theorem mid_end (k N T : Nat) : mid k N T k = wI k T := by unfold mid; rw [List.drop_of_length_le (by rw [wI_length]; exact Nat.le_refl _), List.append_nil]
theorem mid_get {k N T i : Nat} (h : i < k) : (mid k N T i).getD i 0 = ((N / W ^ i % W : Nat) : Int) := by
  have h2 : i < (wI k N).length := by rw [wI_length]; exact h
  unfold mid
  rw [List.getD_eq_getElem?_getD, List.getElem?_append_right (by rw [wI_length]; exact Nat.le_refl _), wI_length, Nat.sub_self, List.getElem?_drop, Nat.add_zero, List.getElem?_eq_getElem h2, wI_get]
  rfl
theorem mid_set {k N T i : Nat} (h : i < k) : (mid k N T i).set i ((T / W ^ i % W : Nat) : Int) = mid k N T (i + 1) := by
  have h2 : i < (wI k N).length := by rw [wI_length]; exact h
  unfold mid
  rw [List.set_append_right _ _ (by rw [wI_length]; exact Nat.le_refl _), wI_length, Nat.sub_self, List.drop_eq_getElem_cons h2, List.set_cons_zero, wI_succ, List.append_assoc]
  rfl
end Go.Proofs.YtjaeblkgjbncmaaDoor
namespace Go.Proofs.YtjaeblkgjbncmaaDoor
set_option maxRecDepth 20000
set_option linter.unusedSimpArgs false
set_option linter.unusedVariables false
open Go Go.Fw
attribute [local irreducible] CW OL OD FX Stp FnC FnV Ret wI vd strOf ca mid
set_option maxHeartbeats 800000

theorem times_step {ts : Array TypeId} {n : Nat} {wE : World} {mu : List Nat} {fm : FM} {M : View} {rest : List OB} {K : Value → View → List OB → Prop} {d : Option Nat} {ty : TypeId} {pos : String} {af : Array Edge} {g : Option (Nat × Bool)} {x y z : Operand} {r : Option Nat} {cap N f p k : Nat} {sp : List Value}
    (hx : ev fm x = some (.slice (base r none) k cap)) (hy : ev fm y = some (.int .u64 f)) (hz : ev fm z = some (.int .u64 p)) (hf : 1 ≤ f ∧ f ≤ 256) (hp : p ≤ 256) (hkN : nd W N = k) (hk : k ≤ 100000) (so : SO r k cap (flat (eK .u32) (wI k N)) sp 1)
    (hK : ∀ r' sp' cap', SO r' (nd W (N * f + p)) cap' (flat (eK .u32) (wI (nd W (N * f + p)) (N * f + p))) sp' 1 → K (.tuple #[.slice (base r' none) (nd W (N * f + p)) cap', .bool (decide (nd W (N * f + p) ≤ 64))]) M (⟨r', flat (eK .u32) (wI (nd W (N * f + p)) (N * f + p)) ++ sp', 51⟩ :: rest)) :
    Stp ⟨Tryd.prog, n, wE, mu⟩ ⟨d, .call { callee := .value (.func 40), args := #[x, y, z], argTypes := ts }, ty, pos, af, g⟩ fm M (⟨r, flat (eK .u32) (wI k N) ++ sp, 51⟩ :: rest) K := by
  refine s_inline (xs := [x, y, z]) (vs := [.slice (base r none) k cap, .int .u64 f, .int .u64 p]) (by simp [evs, hx, hy, hz]) (by kernel_rfl) Tryd.func40 rfl rfl rfl rfl ?_
  have hfp : f + p < W := by have : W = 4294967296 := rfl; omega
  generalize hT : N * f + p = T at *
  repeat' first
    | apply cw_seq
    | (refine cw_region_id 0 ?_; (apply ol_as; exact rfl; exact rfl); (apply ol_as; exact rfl; exact rfl); (apply ol_nil))
    | (refine cw_region_id 1 ?_; (apply ol_mv; exact rfl; exact rfl); (apply ol_val; exact rfl; apply stp_pur; apply s_len; exact rfl; exact el_23); (apply ol_mv; exact rfl; exact rfl); (apply ol_nil))
    | (apply cw_cond_true; exact rfl; (first | exact rfl | assumption))
    | (apply cw_cond_false; exact rfl; (first | exact rfl | assumption))
    | apply cw_skip
    | apply cw_ret
    | apply cw_block
    | apply cw_exit
  refine cw_loopK (σ := Nat) [0, 1, 11, 12] (by (repeat (first | exact Keep.nil | (apply Keep.cons; exact rfl)))) (fun i => [(2, .int .u64 (ca N f p i : Nat)), (13, .int .i64 i)]) (fun _ => M) (fun i => ⟨r, flat (eK .u32) (mid k N T i) ++ sp, 51⟩ :: rest) (fun i => i ≤ k) (fun i => k - i) 0 (by rw [ca_zero]; (repeat (first | exact trivial | refine And.intro rfl ?_))) (View.le.refl _) (by rw [mid_zero]; (repeat (first | exact Pick.nil | (apply Pick.cons; (focus ((repeat (first | exact Spl.here | apply Spl.there)); done))) | exact Pick.refl))) (Nat.zero_le _) ?_
  intro i hi
  by_cases hik : i < k
  · obtain ⟨q, rfl⟩ : ∃ q, r = some q := ⟨_, some_ref so (by omega)⟩
    have hlen := mid_length (N := N) (T := T) (show i ≤ k by omega)
    have hget := mid_get (N := N) (T := T) hik
    have hset := mid_set (N := N) (T := T) hik
    have hcs := ca_succ N f p i
    have hcl := ca_le N f p i
    rw [← hT, ca_word, hT] at hset
    have hX : N / W ^ i % W < W := Nat.mod_lt _ W_pos
    generalize N / W ^ i % W = X at *
    generalize ca N f p i = Y at *
    generalize mid k N T i = B at *
    have hmul : ((X : Nat) : Int) * ((f : Nat) : Int) = ((X * f : Nat) : Int) := (Int.natCast_mul X f).symm
    have hXf : X * f ≤ 4294967296 * 256 := Nat.mul_le_mul (Nat.le_of_lt hX) hf.2
    have hX32 : X < 4294967296 := hX
    generalize X * f = Z at *
    have e32 := wrap32 (Z + Y)
    have es := shr32 (Z + Y)
    rw [Int.natCast_add] at e32 es
    rw [← hcs] at es
    have hg2 : GetN ((flat (eK .u32) B ++ sp)[·]?) (0 + i * 1) 1 [.int .u32 ((X : Nat) : Int)] := by
      have := getNK (k := .u32) (sp := sp) (show i < B.length by omega)
      rwa [hget] at this
    have hs2 : SetAt (flat (eK .u32) B ++ sp) (0 + i * 1) (.int .u32 (((Z + Y) % W : Nat) : Int)) (flat (eK .u32) (mid k N T (i + 1)) ++ sp) := by
      have := setAtK (k := .u32) (sp := sp) (v := (((Z + Y) % W : Nat) : Int)) (show i < B.length by omega)
      rwa [hset] at this
    repeat' first
      | apply cw_seq
      | (refine cw_region_id 2 ?_; (apply ol_val; exact rfl; apply stp_cmp; apply s_lss; exact rfl; exact rfl; all_goals (intro hc14; try (exfalso; (first | exact hc14 rfl | omega)))); all_goals (apply ol_nil))
      | (refine cw_region_id 3 ?_; (apply ol_mv; exact rfl; exact rfl); (apply ol_val; exact rfl; apply stp_pur; first | (apply s_indexK; exact rfl; exact rfl; exact el_23; exact sz_51; (first | exact rfl | exact (show base (some q) none = _ from rfl)); omega) | (apply s_indexO; exact rfl; exact rfl; exact el_23; exact sz_51; (first | exact rfl | exact (show base (some q) none = _ from rfl)); omega)); (apply ol_ld; exact rfl; exact rfl; exact rfl; (apply RdN.own; (focus ((repeat constructor); done)); (first | exact GetN.cons rfl GetN.nil | exact hg2))); (apply ol_as; exact rfl; exact rfl); (apply ol_as; exact rfl; exact rfl); (apply ol_nil))
      | (refine cw_region_id 4 ?_; (apply ol_mv; exact rfl; exact rfl); (apply ol_val; exact rfl; apply stp_pur; first | (apply s_conv; exact rfl; exact rfl; exact ti_41; (focus (apply wrap_u64; omega))) | (apply s_conv; exact rfl; exact rfl; exact ti_41; exact e32) | (apply s_conv; exact rfl; exact rfl; exact ti_41; exact rfl)); (apply ol_mv; exact rfl; exact rfl); (apply ol_val; exact rfl; apply stp_pur; apply s_mulE; exact rfl; exact rfl; exact hmul; (dsimp only [lowK, highK]; omega)); (apply ol_mv; exact rfl; exact rfl); (apply ol_val; exact rfl; apply stp_pur; first | (apply s_addF; exact rfl; exact rfl; (first | (dsimp only [lowK, highK]; omega))) | (apply s_addW; exact rfl; exact rfl)); (apply ol_as; exact rfl; exact rfl); (apply ol_nil))
      | (refine cw_region_id 5 ?_; (apply ol_mv; exact rfl; exact rfl); (apply ol_mv; exact rfl; exact rfl); (apply ol_mv; exact rfl; exact rfl); (apply ol_val; exact rfl; apply stp_pur; first | (apply s_conv; exact rfl; exact rfl; exact ti_51; (focus (apply wrap_u32; omega))) | (apply s_conv; exact rfl; exact rfl; exact ti_51; exact e32) | (apply s_conv; exact rfl; exact rfl; exact ti_51; exact rfl)); (apply ol_mv; exact rfl; exact rfl); (apply ol_val; exact rfl; apply stp_pur; apply s_shrE; exact rfl; exact rfl; (first | decide | omega | (simp [IntKind.bits]; omega) | (simp [IntKind.bits]; done)); exact es); (apply ol_val; exact rfl; apply stp_pur; first | (apply s_indexK; exact rfl; exact rfl; exact el_23; exact sz_51; (first | exact rfl | exact (show base (some q) none = _ from rfl)); omega) | (apply s_indexO; exact rfl; exact rfl; exact el_23; exact sz_51; (first | exact rfl | exact (show base (some q) none = _ from rfl)); omega)); (apply ol_eff; apply s_store1; exact rfl; exact rfl; exact sz_51; exact rfl; (focus ((repeat constructor); done)); (first | (focus ((repeat constructor); done)) | (apply setAt_ints_app; (first | omega | (simp; omega) | (simp; done))) | (apply setAt_ints; (first | omega | (simp; omega) | (simp; done))) | exact hs2 | (apply SetAt.set; (first | omega | (simp; omega) | (simp; done))))); (apply ol_as; exact rfl; exact rfl); (apply ol_nil))
      | (refine cw_region_id 6 ?_; (apply ol_val; exact rfl; apply stp_pur; apply s_add64; exact rfl; exact rfl; omega); (apply ol_mv; exact rfl; exact rfl); (apply ol_nil))
      | (refine cw_region_id 7 ?_; (apply ol_mv; exact rfl; exact rfl); (apply ol_val; exact rfl; apply stp_cmp; apply s_gtr; exact rfl; exact rfl; all_goals (intro hc33; try (exfalso; (first | exact hc33 rfl | omega)))); all_goals (apply ol_nil))
      | (refine cw_region_id 8 ?_; (apply ol_mv; exact rfl; exact rfl); (apply ol_mv; exact rfl; exact rfl); (apply ol_val; exact rfl; apply stp_pur; first | (apply s_conv; exact rfl; exact rfl; exact ti_51; (focus (apply wrap_u32; omega))) | (apply s_conv; exact rfl; exact rfl; exact ti_51; exact e32) | (apply s_conv; exact rfl; exact rfl; exact ti_51; exact rfl)); (apply ol_val; exact rfl; apply s_buildSl; exact rfl; exact el_23; exact sz_51; exact zb_51; (focus ((repeat constructor); done)); exact rfl; exact rfl; (exact Nat.le_of_ble_eq_true rfl); (focus ((repeat constructor); done)); (focus ((repeat (first | exact rfl | constructor)); done)); intro bk37); (apply ol_val; exact rfl; first | (apply s_append_e; exact rfl; exact rfl; (focus ((repeat constructor); done)); exact el_23; exact sz_51; exact zb_51; exact rfl; exact by_51; (first | exact (fun _ => rfl) | (intro _; exact (show base (some q) none = _ from rfl))); (first | (apply RdN.own; (focus ((repeat constructor); done)); (focus ((repeat (first | exact rfl | constructor)); done)))); (first | exact rfl); (first | omega | (simp; omega) | (simp; done)); (first | omega | (simp; omega) | (simp; done)); intro rk38 sk38 ck38 ok38) | (apply s_append_r; exact rfl; exact rfl; (focus ((repeat constructor); done)); (first | exact rfl | exact (List.append_nil _).symm); exact el_23; exact sz_51; exact zb_51; exact rfl; exact by_51; (first | exact SO.nil _ | assumption | (exact ⟨by simp, by simp, Nat.le_refl _, by simp⟩)); (first | exact (fun _ => rfl) | (intro _; exact (show base (some q) none = _ from rfl))); (first | (apply RdN.own; (focus ((repeat constructor); done)); (focus ((repeat (first | exact rfl | constructor)); done)))); (first | exact rfl); (first | omega | (simp; omega) | (simp; done)); (first | omega | (simp; omega) | (simp; done)); intro rk38 sk38 ck38 ok38) | (apply s_append_b; exact rfl; exact rfl; (focus ((repeat constructor); done)); (first | exact rfl | exact (List.append_nil _).symm); exact el_23; exact sz_51; exact zb_51; exact rfl; exact by_51; (first | exact SO.nil _ | assumption | (exact ⟨by simp, by simp, Nat.le_refl _, by simp⟩)); (first | exact (fun _ => rfl) | (intro _; exact (show base (some q) none = _ from rfl))); (first | (apply RdN.own; (focus ((repeat constructor); done)); (focus ((repeat (first | exact rfl | constructor)); done)))); (first | exact rfl); (first | omega | (simp; omega) | (simp; done)); (first | omega | (simp; omega) | (simp; done)); intro rk38 sk38 ck38 ok38) | (apply s_append_n; exact rfl; exact rfl; (focus ((repeat constructor); done)); exact el_23; exact sz_51; exact zb_51; exact rfl; exact by_51; (first | exact (fun _ => rfl) | (intro _; exact (show base (some q) none = _ from rfl))); (first | (apply RdN.own; (focus ((repeat constructor); done)); (focus ((repeat (first | exact rfl | constructor)); done)))); (first | exact rfl); (first | omega | (simp; omega) | (simp; done)); (first | omega | (simp; omega) | (simp; done)); intro rk38 sk38 ck38 ok38)); (apply ol_as; exact rfl; exact rfl); (apply ol_nil))
      | (refine cw_region_id 9 ?_; (apply ol_mv; exact rfl; exact rfl); (apply ol_mv; exact rfl; exact rfl); (apply ol_val; exact rfl; apply stp_pur; apply s_len; exact rfl; exact el_23); (apply ol_val; exact rfl; apply stp_cmp; apply s_leq; exact rfl; exact rfl; all_goals (intro hc42; try (exfalso; (first | exact hc42 rfl | omega)))); all_goals (apply ol_as; exact rfl; exact rfl); all_goals (apply ol_as; exact rfl; exact rfl); all_goals (apply ol_nil))
      | (apply cw_cond_true; exact rfl; (first | exact rfl | assumption))
      | (apply cw_cond_false; exact rfl; (first | exact rfl | assumption))
      | apply cw_skip
      | apply cw_ret
      | apply cw_block
      | apply cw_exit
    exact ⟨i + 1, ⟨by (repeat (first | exact trivial | refine And.intro rfl ?_)), View.le.refl _, by (repeat (first | exact Pick.nil | (apply Pick.cons; (focus ((repeat (first | exact Spl.here | apply Spl.there)); done))) | exact Pick.refl)), hik, by omega⟩⟩
  · obtain rfl : i = k := by omega
    rw [mid_end]
    have hcl := ca_le N f p i
    by_cases hca : 0 < ca N f p i
    · obtain ⟨h1, h2⟩ := ca_more hf.1 hfp hkN hca
      rw [hT] at h1 h2
      rw [h1] at hK
      have hfl := flat_wI i T
      rw [h2] at hfl
      have so2 : SO r i cap (flat (eK .u32) (wI i T)) sp 1 := ⟨by rw [flatK_length, wI_length]; omega, by have := so.hcap; rw [flatK_length, wI_length] at this; rw [flatK_length, wI_length]; exact this, so.hle, so.hnone⟩
      rw [hfl] at hK
      generalize ca N f p i = Y at *
      generalize wI i T = A at *
      have e32 : IntKind.u32.wrap ((Y : Nat) : Int) = ((Y : Nat) : Int) := wrap_u32 (by have : W = 4294967296 := rfl; omega)
      by_cases h64 : i + 1 ≤ 64
      · rw [decide_eq_true h64] at hK
        repeat' first
          | apply cw_seq
          | (refine cw_region_id 2 ?_; (apply ol_val; exact rfl; apply stp_cmp; apply s_lss; exact rfl; exact rfl; all_goals (intro hc14; try (exfalso; (first | exact hc14 rfl | omega)))); all_goals (apply ol_nil))
          | (refine cw_region_id 3 ?_; (apply ol_mv; exact rfl; exact rfl); (apply ol_val; exact rfl; apply stp_pur; first | (apply s_indexK; exact rfl; exact rfl; exact el_23; exact sz_51; (first | exact rfl); omega) | (apply s_indexO; exact rfl; exact rfl; exact el_23; exact sz_51; (first | exact rfl); omega)); (apply ol_ld; exact rfl; exact rfl; exact rfl; (apply RdN.own; (focus ((repeat constructor); done)); (first | exact GetN.cons rfl GetN.nil | (apply getN_ints_app; (first | omega | (simp; omega) | (simp; done))) | (apply getN_ints; (first | omega | (simp; omega) | (simp; done)))))); (apply ol_as; exact rfl; exact rfl); (apply ol_as; exact rfl; exact rfl); (apply ol_nil))
          | (refine cw_region_id 4 ?_; (apply ol_mv; exact rfl; exact rfl); (apply ol_val; exact rfl; apply stp_pur; first | (apply s_conv; exact rfl; exact rfl; exact ti_41; (focus (apply wrap_u64; omega))) | (apply s_conv; exact rfl; exact rfl; exact ti_41; exact e32) | (apply s_conv; exact rfl; exact rfl; exact ti_41; exact rfl)); (apply ol_mv; exact rfl; exact rfl); (apply ol_val; exact rfl; apply stp_pur; apply s_mulW; exact rfl; exact rfl); (apply ol_mv; exact rfl; exact rfl); (apply ol_val; exact rfl; apply stp_pur; apply s_addW; exact rfl; exact rfl); (apply ol_as; exact rfl; exact rfl); (apply ol_nil))
          | (refine cw_region_id 5 ?_; (apply ol_mv; exact rfl; exact rfl); (apply ol_mv; exact rfl; exact rfl); (apply ol_mv; exact rfl; exact rfl); (apply ol_val; exact rfl; apply stp_pur; first | (apply s_conv; exact rfl; exact rfl; exact ti_51; (focus (apply wrap_u32; omega))) | (apply s_conv; exact rfl; exact rfl; exact ti_51; exact e32) | (apply s_conv; exact rfl; exact rfl; exact ti_51; exact rfl)); (apply ol_mv; exact rfl; exact rfl); (apply ol_val; exact rfl; apply stp_pur; apply s_shr; exact rfl; exact rfl; (first | decide | omega | (simp [IntKind.bits]; omega) | (simp [IntKind.bits]; done))); (apply ol_val; exact rfl; apply stp_pur; first | (apply s_indexK; exact rfl; exact rfl; exact el_23; exact sz_51; (first | exact rfl); omega) | (apply s_indexO; exact rfl; exact rfl; exact el_23; exact sz_51; (first | exact rfl); omega)); (apply ol_eff; apply s_store1; exact rfl; exact rfl; exact sz_51; exact rfl; (focus ((repeat constructor); done)); (first | (focus ((repeat constructor); done)) | (apply setAt_ints_app; (first | omega | (simp; omega) | (simp; done))) | (apply setAt_ints; (first | omega | (simp; omega) | (simp; done))) | (apply SetAt.set; (first | omega | (simp; omega) | (simp; done))))); (apply ol_as; exact rfl; exact rfl); (apply ol_nil))
          | (refine cw_region_id 6 ?_; (apply ol_val; exact rfl; apply stp_pur; apply s_add64; exact rfl; exact rfl; omega); (apply ol_mv; exact rfl; exact rfl); (apply ol_nil))
          | (refine cw_region_id 7 ?_; (apply ol_mv; exact rfl; exact rfl); (apply ol_val; exact rfl; apply stp_cmp; apply s_gtr; exact rfl; exact rfl; all_goals (intro hc33; try (exfalso; (first | exact hc33 rfl | omega)))); all_goals (apply ol_nil))
          | (refine cw_region_id 8 ?_; (apply ol_mv; exact rfl; exact rfl); (apply ol_mv; exact rfl; exact rfl); (apply ol_val; exact rfl; apply stp_pur; first | (apply s_conv; exact rfl; exact rfl; exact ti_51; (focus (apply wrap_u32; omega))) | (apply s_conv; exact rfl; exact rfl; exact ti_51; exact e32) | (apply s_conv; exact rfl; exact rfl; exact ti_51; exact rfl)); (apply ol_val; exact rfl; apply s_buildSl; exact rfl; exact el_23; exact sz_51; exact zb_51; (focus ((repeat constructor); done)); exact rfl; exact rfl; (exact Nat.le_of_ble_eq_true rfl); (focus ((repeat constructor); done)); (focus ((repeat (first | exact rfl | constructor)); done)); intro bk37); (apply ol_val; exact rfl; first | (apply s_append_e; exact rfl; exact rfl; (focus ((repeat constructor); done)); exact el_23; exact sz_51; exact zb_51; exact rfl; exact by_51; (first | exact (fun _ => rfl)); (first | (apply RdN.own; (focus ((repeat constructor); done)); (focus ((repeat (first | exact rfl | constructor)); done)))); (first | exact rfl); (first | omega | (simp; omega) | (simp; done)); (first | omega | (simp; omega) | (simp; done)); intro rk38 sk38 ck38 ok38) | (apply s_append_r; exact rfl; exact rfl; (focus ((repeat constructor); done)); (first | exact rfl | exact (List.append_nil _).symm); exact el_23; exact sz_51; exact zb_51; exact rfl; exact by_51; (first | exact SO.nil _ | assumption | exact so2 | (exact ⟨by simp, by simp, Nat.le_refl _, by simp⟩)); (first | exact (fun _ => rfl)); (first | (apply RdN.own; (focus ((repeat constructor); done)); (focus ((repeat (first | exact rfl | constructor)); done)))); (first | exact rfl); (first | omega | (simp; omega) | (simp; done)); (first | omega | (simp; omega) | (simp; done)); intro rk38 sk38 ck38 ok38) | (apply s_append_b; exact rfl; exact rfl; (focus ((repeat constructor); done)); (first | exact rfl | exact (List.append_nil _).symm); exact el_23; exact sz_51; exact zb_51; exact rfl; exact by_51; (first | exact SO.nil _ | assumption | exact so2 | (exact ⟨by simp, by simp, Nat.le_refl _, by simp⟩)); (first | exact (fun _ => rfl)); (first | (apply RdN.own; (focus ((repeat constructor); done)); (focus ((repeat (first | exact rfl | constructor)); done)))); (first | exact rfl); (first | omega | (simp; omega) | (simp; done)); (first | omega | (simp; omega) | (simp; done)); intro rk38 sk38 ck38 ok38) | (apply s_append_n; exact rfl; exact rfl; (focus ((repeat constructor); done)); exact el_23; exact sz_51; exact zb_51; exact rfl; exact by_51; (first | exact (fun _ => rfl)); (first | (apply RdN.own; (focus ((repeat constructor); done)); (focus ((repeat (first | exact rfl | constructor)); done)))); (first | exact rfl); (first | omega | (simp; omega) | (simp; done)); (first | omega | (simp; omega) | (simp; done)); intro rk38 sk38 ck38 ok38)); (apply ol_as; exact rfl; exact rfl); (apply ol_nil))
          | (refine cw_region_id 9 ?_; (apply ol_mv; exact rfl; exact rfl); (apply ol_mv; exact rfl; exact rfl); (apply ol_val; exact rfl; apply stp_pur; apply s_len; exact rfl; exact el_23); (apply ol_val; exact rfl; apply stp_cmp; apply s_leq; exact rfl; exact rfl; all_goals (intro hc42; try (exfalso; (first | exact hc42 rfl | omega)))); all_goals (apply ol_as; exact rfl; exact rfl); all_goals (apply ol_as; exact rfl; exact rfl); all_goals (apply ol_nil))
          | (apply cw_cond_true; exact rfl; (first | exact rfl | assumption))
          | (apply cw_cond_false; exact rfl; (first | exact rfl | assumption))
          | apply cw_skip
          | apply cw_ret
          | apply cw_block
          | apply cw_exit
        exact endIS (RVal.tmp rfl (RVal.tmp rfl RVal.nil)) (List.sublist_cons_self _ _) (hK rk38 sk38 ck38 ok38)
      · rw [decide_eq_false h64] at hK
        repeat' first
          | apply cw_seq
          | (refine cw_region_id 2 ?_; (apply ol_val; exact rfl; apply stp_cmp; apply s_lss; exact rfl; exact rfl; all_goals (intro hc14; try (exfalso; (first | exact hc14 rfl | omega)))); all_goals (apply ol_nil))
          | (refine cw_region_id 3 ?_; (apply ol_mv; exact rfl; exact rfl); (apply ol_val; exact rfl; apply stp_pur; first | (apply s_indexK; exact rfl; exact rfl; exact el_23; exact sz_51; (first | exact rfl); omega) | (apply s_indexO; exact rfl; exact rfl; exact el_23; exact sz_51; (first | exact rfl); omega)); (apply ol_ld; exact rfl; exact rfl; exact rfl; (apply RdN.own; (focus ((repeat constructor); done)); (first | exact GetN.cons rfl GetN.nil | (apply getN_ints_app; (first | omega | (simp; omega) | (simp; done))) | (apply getN_ints; (first | omega | (simp; omega) | (simp; done)))))); (apply ol_as; exact rfl; exact rfl); (apply ol_as; exact rfl; exact rfl); (apply ol_nil))
          | (refine cw_region_id 4 ?_; (apply ol_mv; exact rfl; exact rfl); (apply ol_val; exact rfl; apply stp_pur; first | (apply s_conv; exact rfl; exact rfl; exact ti_41; (focus (apply wrap_u64; omega))) | (apply s_conv; exact rfl; exact rfl; exact ti_41; exact e32) | (apply s_conv; exact rfl; exact rfl; exact ti_41; exact rfl)); (apply ol_mv; exact rfl; exact rfl); (apply ol_val; exact rfl; apply stp_pur; apply s_mulW; exact rfl; exact rfl); (apply ol_mv; exact rfl; exact rfl); (apply ol_val; exact rfl; apply stp_pur; apply s_addW; exact rfl; exact rfl); (apply ol_as; exact rfl; exact rfl); (apply ol_nil))
          | (refine cw_region_id 5 ?_; (apply ol_mv; exact rfl; exact rfl); (apply ol_mv; exact rfl; exact rfl); (apply ol_mv; exact rfl; exact rfl); (apply ol_val; exact rfl; apply stp_pur; first | (apply s_conv; exact rfl; exact rfl; exact ti_51; (focus (apply wrap_u32; omega))) | (apply s_conv; exact rfl; exact rfl; exact ti_51; exact e32) | (apply s_conv; exact rfl; exact rfl; exact ti_51; exact rfl)); (apply ol_mv; exact rfl; exact rfl); (apply ol_val; exact rfl; apply stp_pur; apply s_shr; exact rfl; exact rfl; (first | decide | omega | (simp [IntKind.bits]; omega) | (simp [IntKind.bits]; done))); (apply ol_val; exact rfl; apply stp_pur; first | (apply s_indexK; exact rfl; exact rfl; exact el_23; exact sz_51; (first | exact rfl); omega) | (apply s_indexO; exact rfl; exact rfl; exact el_23; exact sz_51; (first | exact rfl); omega)); (apply ol_eff; apply s_store1; exact rfl; exact rfl; exact sz_51; exact rfl; (focus ((repeat constructor); done)); (first | (focus ((repeat constructor); done)) | (apply setAt_ints_app; (first | omega | (simp; omega) | (simp; done))) | (apply setAt_ints; (first | omega | (simp; omega) | (simp; done))) | (apply SetAt.set; (first | omega | (simp; omega) | (simp; done))))); (apply ol_as; exact rfl; exact rfl); (apply ol_nil))
          | (refine cw_region_id 6 ?_; (apply ol_val; exact rfl; apply stp_pur; apply s_add64; exact rfl; exact rfl; omega); (apply ol_mv; exact rfl; exact rfl); (apply ol_nil))
          | (refine cw_region_id 7 ?_; (apply ol_mv; exact rfl; exact rfl); (apply ol_val; exact rfl; apply stp_cmp; apply s_gtr; exact rfl; exact rfl; all_goals (intro hc33; try (exfalso; (first | exact hc33 rfl | omega)))); all_goals (apply ol_nil))
          | (refine cw_region_id 8 ?_; (apply ol_mv; exact rfl; exact rfl); (apply ol_mv; exact rfl; exact rfl); (apply ol_val; exact rfl; apply stp_pur; first | (apply s_conv; exact rfl; exact rfl; exact ti_51; (focus (apply wrap_u32; omega))) | (apply s_conv; exact rfl; exact rfl; exact ti_51; exact e32) | (apply s_conv; exact rfl; exact rfl; exact ti_51; exact rfl)); (apply ol_val; exact rfl; apply s_buildSl; exact rfl; exact el_23; exact sz_51; exact zb_51; (focus ((repeat constructor); done)); exact rfl; exact rfl; (exact Nat.le_of_ble_eq_true rfl); (focus ((repeat constructor); done)); (focus ((repeat (first | exact rfl | constructor)); done)); intro bk37); (apply ol_val; exact rfl; first | (apply s_append_e; exact rfl; exact rfl; (focus ((repeat constructor); done)); exact el_23; exact sz_51; exact zb_51; exact rfl; exact by_51; (first | exact (fun _ => rfl)); (first | (apply RdN.own; (focus ((repeat constructor); done)); (focus ((repeat (first | exact rfl | constructor)); done)))); (first | exact rfl); (first | omega | (simp; omega) | (simp; done)); (first | omega | (simp; omega) | (simp; done)); intro rk38 sk38 ck38 ok38) | (apply s_append_r; exact rfl; exact rfl; (focus ((repeat constructor); done)); (first | exact rfl | exact (List.append_nil _).symm); exact el_23; exact sz_51; exact zb_51; exact rfl; exact by_51; (first | exact SO.nil _ | assumption | exact so2 | (exact ⟨by simp, by simp, Nat.le_refl _, by simp⟩)); (first | exact (fun _ => rfl)); (first | (apply RdN.own; (focus ((repeat constructor); done)); (focus ((repeat (first | exact rfl | constructor)); done)))); (first | exact rfl); (first | omega | (simp; omega) | (simp; done)); (first | omega | (simp; omega) | (simp; done)); intro rk38 sk38 ck38 ok38) | (apply s_append_b; exact rfl; exact rfl; (focus ((repeat constructor); done)); (first | exact rfl | exact (List.append_nil _).symm); exact el_23; exact sz_51; exact zb_51; exact rfl; exact by_51; (first | exact SO.nil _ | assumption | exact so2 | (exact ⟨by simp, by simp, Nat.le_refl _, by simp⟩)); (first | exact (fun _ => rfl)); (first | (apply RdN.own; (focus ((repeat constructor); done)); (focus ((repeat (first | exact rfl | constructor)); done)))); (first | exact rfl); (first | omega | (simp; omega) | (simp; done)); (first | omega | (simp; omega) | (simp; done)); intro rk38 sk38 ck38 ok38) | (apply s_append_n; exact rfl; exact rfl; (focus ((repeat constructor); done)); exact el_23; exact sz_51; exact zb_51; exact rfl; exact by_51; (first | exact (fun _ => rfl)); (first | (apply RdN.own; (focus ((repeat constructor); done)); (focus ((repeat (first | exact rfl | constructor)); done)))); (first | exact rfl); (first | omega | (simp; omega) | (simp; done)); (first | omega | (simp; omega) | (simp; done)); intro rk38 sk38 ck38 ok38)); (apply ol_as; exact rfl; exact rfl); (apply ol_nil))
          | (refine cw_region_id 9 ?_; (apply ol_mv; exact rfl; exact rfl); (apply ol_mv; exact rfl; exact rfl); (apply ol_val; exact rfl; apply stp_pur; apply s_len; exact rfl; exact el_23); (apply ol_val; exact rfl; apply stp_cmp; apply s_leq; exact rfl; exact rfl; all_goals (intro hc42; try (exfalso; (first | exact hc42 rfl | omega)))); all_goals (apply ol_as; exact rfl; exact rfl); all_goals (apply ol_as; exact rfl; exact rfl); all_goals (apply ol_nil))
          | (apply cw_cond_true; exact rfl; (first | exact rfl | assumption))
          | (apply cw_cond_false; exact rfl; (first | exact rfl | assumption))
          | apply cw_skip
          | apply cw_ret
          | apply cw_block
          | apply cw_exit
        exact endIS (RVal.tmp rfl (RVal.tmp rfl RVal.nil)) (List.sublist_cons_self _ _) (hK rk38 sk38 ck38 ok38)
    · have h1 := ca_last hf.1 hfp hkN hca
      rw [hT] at h1
      rw [h1] at hK
      have h0 : ca N f p i = 0 := by omega
      rw [h0]
      have so2 : SO r i cap (flat (eK .u32) (wI i T)) sp 1 := ⟨by rw [flatK_length, wI_length]; omega, by have := so.hcap; rw [flatK_length, wI_length] at this; rw [flatK_length, wI_length]; exact this, so.hle, so.hnone⟩
      by_cases h64 : i ≤ 64
      · rw [decide_eq_true h64] at hK
        repeat' first
          | apply cw_seq
          | (refine cw_region_id 2 ?_; (apply ol_val; exact rfl; apply stp_cmp; apply s_lss; exact rfl; exact rfl; all_goals (intro hc14; try (exfalso; (first | exact hc14 rfl | omega)))); all_goals (apply ol_nil))
          | (refine cw_region_id 3 ?_; (apply ol_mv; exact rfl; exact rfl); (apply ol_val; exact rfl; apply stp_pur; first | (apply s_indexK; exact rfl; exact rfl; exact el_23; exact sz_51; (first | exact rfl); omega) | (apply s_indexO; exact rfl; exact rfl; exact el_23; exact sz_51; (first | exact rfl); omega)); (apply ol_ld; exact rfl; exact rfl; exact rfl; (apply RdN.own; (focus ((repeat constructor); done)); (first | exact GetN.cons rfl GetN.nil | (apply getN_ints_app; (first | omega | (simp; omega) | (simp; done))) | (apply getN_ints; (first | omega | (simp; omega) | (simp; done)))))); (apply ol_as; exact rfl; exact rfl); (apply ol_as; exact rfl; exact rfl); (apply ol_nil))
          | (refine cw_region_id 4 ?_; (apply ol_mv; exact rfl; exact rfl); (apply ol_val; exact rfl; apply stp_pur; first | (apply s_conv; exact rfl; exact rfl; exact ti_41; (focus (apply wrap_u64; omega))) | (apply s_conv; exact rfl; exact rfl; exact ti_41; exact rfl)); (apply ol_mv; exact rfl; exact rfl); (apply ol_val; exact rfl; apply stp_pur; apply s_mulW; exact rfl; exact rfl); (apply ol_mv; exact rfl; exact rfl); (apply ol_val; exact rfl; apply stp_pur; apply s_addW; exact rfl; exact rfl); (apply ol_as; exact rfl; exact rfl); (apply ol_nil))
          | (refine cw_region_id 5 ?_; (apply ol_mv; exact rfl; exact rfl); (apply ol_mv; exact rfl; exact rfl); (apply ol_mv; exact rfl; exact rfl); (apply ol_val; exact rfl; apply stp_pur; first | (apply s_conv; exact rfl; exact rfl; exact ti_51; (focus (apply wrap_u32; omega))) | (apply s_conv; exact rfl; exact rfl; exact ti_51; exact rfl)); (apply ol_mv; exact rfl; exact rfl); (apply ol_val; exact rfl; apply stp_pur; apply s_shr; exact rfl; exact rfl; (first | decide | omega | (simp [IntKind.bits]; omega) | (simp [IntKind.bits]; done))); (apply ol_val; exact rfl; apply stp_pur; first | (apply s_indexK; exact rfl; exact rfl; exact el_23; exact sz_51; (first | exact rfl); omega) | (apply s_indexO; exact rfl; exact rfl; exact el_23; exact sz_51; (first | exact rfl); omega)); (apply ol_eff; apply s_store1; exact rfl; exact rfl; exact sz_51; exact rfl; (focus ((repeat constructor); done)); (first | (focus ((repeat constructor); done)) | (apply setAt_ints_app; (first | omega | (simp; omega) | (simp; done))) | (apply setAt_ints; (first | omega | (simp; omega) | (simp; done))) | (apply SetAt.set; (first | omega | (simp; omega) | (simp; done))))); (apply ol_as; exact rfl; exact rfl); (apply ol_nil))
          | (refine cw_region_id 6 ?_; (apply ol_val; exact rfl; apply stp_pur; apply s_add64; exact rfl; exact rfl; omega); (apply ol_mv; exact rfl; exact rfl); (apply ol_nil))
          | (refine cw_region_id 7 ?_; (apply ol_mv; exact rfl; exact rfl); (apply ol_val; exact rfl; apply stp_cmp; apply s_gtr; exact rfl; exact rfl; all_goals (intro hc33; try (exfalso; (first | exact hc33 rfl | omega)))); all_goals (apply ol_nil))
          | (refine cw_region_id 8 ?_; (apply ol_mv; exact rfl; exact rfl); (apply ol_mv; exact rfl; exact rfl); (apply ol_val; exact rfl; apply stp_pur; first | (apply s_conv; exact rfl; exact rfl; exact ti_51; (focus (apply wrap_u32; omega))) | (apply s_conv; exact rfl; exact rfl; exact ti_51; exact rfl)); (apply ol_val; exact rfl; apply s_buildSl; exact rfl; exact el_23; exact sz_51; exact zb_51; (focus ((repeat constructor); done)); exact rfl; exact rfl; (exact Nat.le_of_ble_eq_true rfl); (focus ((repeat constructor); done)); (focus ((repeat (first | exact rfl | constructor)); done)); intro bk37); (apply ol_val; exact rfl; first | (apply s_append_e; exact rfl; exact rfl; (focus ((repeat constructor); done)); exact el_23; exact sz_51; exact zb_51; exact rfl; exact by_51; (first | exact (fun _ => rfl)); (first | (apply RdN.own; (focus ((repeat constructor); done)); (focus ((repeat (first | exact rfl | constructor)); done)))); (first | exact rfl); (first | omega | (simp; omega) | (simp; done)); (first | omega | (simp; omega) | (simp; done)); intro rk38 sk38 ck38 ok38) | (apply s_append_r; exact rfl; exact rfl; (focus ((repeat constructor); done)); (first | exact rfl | exact (List.append_nil _).symm); exact el_23; exact sz_51; exact zb_51; exact rfl; exact by_51; (first | exact SO.nil _ | assumption | (exact ⟨by simp, by simp, Nat.le_refl _, by simp⟩)); (first | exact (fun _ => rfl)); (first | (apply RdN.own; (focus ((repeat constructor); done)); (focus ((repeat (first | exact rfl | constructor)); done)))); (first | exact rfl); (first | omega | (simp; omega) | (simp; done)); (first | omega | (simp; omega) | (simp; done)); intro rk38 sk38 ck38 ok38) | (apply s_append_b; exact rfl; exact rfl; (focus ((repeat constructor); done)); (first | exact rfl | exact (List.append_nil _).symm); exact el_23; exact sz_51; exact zb_51; exact rfl; exact by_51; (first | exact SO.nil _ | assumption | (exact ⟨by simp, by simp, Nat.le_refl _, by simp⟩)); (first | exact (fun _ => rfl)); (first | (apply RdN.own; (focus ((repeat constructor); done)); (focus ((repeat (first | exact rfl | constructor)); done)))); (first | exact rfl); (first | omega | (simp; omega) | (simp; done)); (first | omega | (simp; omega) | (simp; done)); intro rk38 sk38 ck38 ok38) | (apply s_append_n; exact rfl; exact rfl; (focus ((repeat constructor); done)); exact el_23; exact sz_51; exact zb_51; exact rfl; exact by_51; (first | exact (fun _ => rfl)); (first | (apply RdN.own; (focus ((repeat constructor); done)); (focus ((repeat (first | exact rfl | constructor)); done)))); (first | exact rfl); (first | omega | (simp; omega) | (simp; done)); (first | omega | (simp; omega) | (simp; done)); intro rk38 sk38 ck38 ok38)); (apply ol_as; exact rfl; exact rfl); (apply ol_nil))
          | (refine cw_region_id 9 ?_; (apply ol_mv; exact rfl; exact rfl); (apply ol_mv; exact rfl; exact rfl); (apply ol_val; exact rfl; apply stp_pur; apply s_len; exact rfl; exact el_23); (apply ol_val; exact rfl; apply stp_cmp; apply s_leq; exact rfl; exact rfl; all_goals (intro hc42; try (exfalso; (first | exact hc42 rfl | omega)))); all_goals (apply ol_as; exact rfl; exact rfl); all_goals (apply ol_as; exact rfl; exact rfl); all_goals (apply ol_nil))
          | (apply cw_cond_true; exact rfl; (first | exact rfl | assumption))
          | (apply cw_cond_false; exact rfl; (first | exact rfl | assumption))
          | apply cw_skip
          | apply cw_ret
          | apply cw_block
          | apply cw_exit
        exact endIS (RVal.tmp rfl (RVal.tmp rfl RVal.nil)) (List.Sublist.refl _) (hK r sp cap so2)
      · rw [decide_eq_false h64] at hK
        repeat' first
          | apply cw_seq
          | (refine cw_region_id 2 ?_; (apply ol_val; exact rfl; apply stp_cmp; apply s_lss; exact rfl; exact rfl; all_goals (intro hc14; try (exfalso; (first | exact hc14 rfl | omega)))); all_goals (apply ol_nil))
          | (refine cw_region_id 3 ?_; (apply ol_mv; exact rfl; exact rfl); (apply ol_val; exact rfl; apply stp_pur; first | (apply s_indexK; exact rfl; exact rfl; exact el_23; exact sz_51; (first | exact rfl); omega) | (apply s_indexO; exact rfl; exact rfl; exact el_23; exact sz_51; (first | exact rfl); omega)); (apply ol_ld; exact rfl; exact rfl; exact rfl; (apply RdN.own; (focus ((repeat constructor); done)); (first | exact GetN.cons rfl GetN.nil | (apply getN_ints_app; (first | omega | (simp; omega) | (simp; done))) | (apply getN_ints; (first | omega | (simp; omega) | (simp; done)))))); (apply ol_as; exact rfl; exact rfl); (apply ol_as; exact rfl; exact rfl); (apply ol_nil))
          | (refine cw_region_id 4 ?_; (apply ol_mv; exact rfl; exact rfl); (apply ol_val; exact rfl; apply stp_pur; first | (apply s_conv; exact rfl; exact rfl; exact ti_41; (focus (apply wrap_u64; omega))) | (apply s_conv; exact rfl; exact rfl; exact ti_41; exact rfl)); (apply ol_mv; exact rfl; exact rfl); (apply ol_val; exact rfl; apply stp_pur; apply s_mulW; exact rfl; exact rfl); (apply ol_mv; exact rfl; exact rfl); (apply ol_val; exact rfl; apply stp_pur; apply s_addW; exact rfl; exact rfl); (apply ol_as; exact rfl; exact rfl); (apply ol_nil))
          | (refine cw_region_id 5 ?_; (apply ol_mv; exact rfl; exact rfl); (apply ol_mv; exact rfl; exact rfl); (apply ol_mv; exact rfl; exact rfl); (apply ol_val; exact rfl; apply stp_pur; first | (apply s_conv; exact rfl; exact rfl; exact ti_51; (focus (apply wrap_u32; omega))) | (apply s_conv; exact rfl; exact rfl; exact ti_51; exact rfl)); (apply ol_mv; exact rfl; exact rfl); (apply ol_val; exact rfl; apply stp_pur; apply s_shr; exact rfl; exact rfl; (first | decide | omega | (simp [IntKind.bits]; omega) | (simp [IntKind.bits]; done))); (apply ol_val; exact rfl; apply stp_pur; first | (apply s_indexK; exact rfl; exact rfl; exact el_23; exact sz_51; (first | exact rfl); omega) | (apply s_indexO; exact rfl; exact rfl; exact el_23; exact sz_51; (first | exact rfl); omega)); (apply ol_eff; apply s_store1; exact rfl; exact rfl; exact sz_51; exact rfl; (focus ((repeat constructor); done)); (first | (focus ((repeat constructor); done)) | (apply setAt_ints_app; (first | omega | (simp; omega) | (simp; done))) | (apply setAt_ints; (first | omega | (simp; omega) | (simp; done))) | (apply SetAt.set; (first | omega | (simp; omega) | (simp; done))))); (apply ol_as; exact rfl; exact rfl); (apply ol_nil))
          | (refine cw_region_id 6 ?_; (apply ol_val; exact rfl; apply stp_pur; apply s_add64; exact rfl; exact rfl; omega); (apply ol_mv; exact rfl; exact rfl); (apply ol_nil))
          | (refine cw_region_id 7 ?_; (apply ol_mv; exact rfl; exact rfl); (apply ol_val; exact rfl; apply stp_cmp; apply s_gtr; exact rfl; exact rfl; all_goals (intro hc33; try (exfalso; (first | exact hc33 rfl | omega)))); all_goals (apply ol_nil))
          | (refine cw_region_id 8 ?_; (apply ol_mv; exact rfl; exact rfl); (apply ol_mv; exact rfl; exact rfl); (apply ol_val; exact rfl; apply stp_pur; first | (apply s_conv; exact rfl; exact rfl; exact ti_51; (focus (apply wrap_u32; omega))) | (apply s_conv; exact rfl; exact rfl; exact ti_51; exact rfl)); (apply ol_val; exact rfl; apply s_buildSl; exact rfl; exact el_23; exact sz_51; exact zb_51; (focus ((repeat constructor); done)); exact rfl; exact rfl; (exact Nat.le_of_ble_eq_true rfl); (focus ((repeat constructor); done)); (focus ((repeat (first | exact rfl | constructor)); done)); intro bk37); (apply ol_val; exact rfl; first | (apply s_append_e; exact rfl; exact rfl; (focus ((repeat constructor); done)); exact el_23; exact sz_51; exact zb_51; exact rfl; exact by_51; (first | exact (fun _ => rfl)); (first | (apply RdN.own; (focus ((repeat constructor); done)); (focus ((repeat (first | exact rfl | constructor)); done)))); (first | exact rfl); (first | omega | (simp; omega) | (simp; done)); (first | omega | (simp; omega) | (simp; done)); intro rk38 sk38 ck38 ok38) | (apply s_append_r; exact rfl; exact rfl; (focus ((repeat constructor); done)); (first | exact rfl | exact (List.append_nil _).symm); exact el_23; exact sz_51; exact zb_51; exact rfl; exact by_51; (first | exact SO.nil _ | assumption | (exact ⟨by simp, by simp, Nat.le_refl _, by simp⟩)); (first | exact (fun _ => rfl)); (first | (apply RdN.own; (focus ((repeat constructor); done)); (focus ((repeat (first | exact rfl | constructor)); done)))); (first | exact rfl); (first | omega | (simp; omega) | (simp; done)); (first | omega | (simp; omega) | (simp; done)); intro rk38 sk38 ck38 ok38) | (apply s_append_b; exact rfl; exact rfl; (focus ((repeat constructor); done)); (first | exact rfl | exact (List.append_nil _).symm); exact el_23; exact sz_51; exact zb_51; exact rfl; exact by_51; (first | exact SO.nil _ | assumption | (exact ⟨by simp, by simp, Nat.le_refl _, by simp⟩)); (first | exact (fun _ => rfl)); (first | (apply RdN.own; (focus ((repeat constructor); done)); (focus ((repeat (first | exact rfl | constructor)); done)))); (first | exact rfl); (first | omega | (simp; omega) | (simp; done)); (first | omega | (simp; omega) | (simp; done)); intro rk38 sk38 ck38 ok38) | (apply s_append_n; exact rfl; exact rfl; (focus ((repeat constructor); done)); exact el_23; exact sz_51; exact zb_51; exact rfl; exact by_51; (first | exact (fun _ => rfl)); (first | (apply RdN.own; (focus ((repeat constructor); done)); (focus ((repeat (first | exact rfl | constructor)); done)))); (first | exact rfl); (first | omega | (simp; omega) | (simp; done)); (first | omega | (simp; omega) | (simp; done)); intro rk38 sk38 ck38 ok38)); (apply ol_as; exact rfl; exact rfl); (apply ol_nil))
          | (refine cw_region_id 9 ?_; (apply ol_mv; exact rfl; exact rfl); (apply ol_mv; exact rfl; exact rfl); (apply ol_val; exact rfl; apply stp_pur; apply s_len; exact rfl; exact el_23); (apply ol_val; exact rfl; apply stp_cmp; apply s_leq; exact rfl; exact rfl; all_goals (intro hc42; try (exfalso; (first | exact hc42 rfl | omega)))); all_goals (apply ol_as; exact rfl; exact rfl); all_goals (apply ol_as; exact rfl; exact rfl); all_goals (apply ol_nil))
          | (apply cw_cond_true; exact rfl; (first | exact rfl | assumption))
          | (apply cw_cond_false; exact rfl; (first | exact rfl | assumption))
          | apply cw_skip
          | apply cw_ret
          | apply cw_block
          | apply cw_exit
        exact endIS (RVal.tmp rfl (RVal.tmp rfl RVal.nil)) (List.Sublist.refl _) (hK r sp cap so2)
end Go.Proofs.YtjaeblkgjbncmaaDoor

/-
  Words divided by a small number: the reference's way.
-/
namespace Go.Proofs.YtjaeblkgjbncmaaDoor
set_option maxRecDepth 20000
set_option linter.unusedSimpArgs false
set_option linter.unusedVariables false
open Go Go.Fw
/-- The row in the middle of the loop: what is new stands at the end. -/
def zmid (k Q j : Nat) : List Int := List.replicate j 0 ++ (wI k Q).drop j
theorem zmid_length {k Q j : Nat} (h : j ≤ k) : (zmid k Q j).length = k := by unfold zmid; rw [List.length_append, List.length_drop, wI_length, List.length_replicate]; omega
theorem zmid_zero (k Q : Nat) : zmid k Q 0 = wI k Q := rfl
theorem zmid_end (k Q : Nat) : zmid k Q k = List.replicate k 0 := by unfold zmid; rw [List.drop_of_length_le (by rw [wI_length]; exact Nat.le_refl _), List.append_nil]
theorem zmid_set {k Q i : Nat} (h : i < k) : (zmid k Q (i + 1)).set i ((Q / W ^ i % W : Nat) : Int) = zmid k Q i := by
  have h2 : i < (wI k Q).length := by rw [wI_length]; exact h
  unfold zmid
  rw [List.replicate_succ', List.append_assoc, List.set_append_right _ _ (by rw [List.length_replicate]; exact Nat.le_refl _), List.length_replicate, Nat.sub_self, List.drop_eq_getElem_cons h2, wI_get]
  rfl
theorem shl32 {R : Nat} (h : R < W) : IntKind.u64.wrap (((R : Nat) : Int) * 2 ^ (32 : Int).toNat) = ((R * W : Nat) : Int) := by
  have h2 : R < 4294967296 := h
  show IntKind.u64.wrap (((R : Nat) : Int) * 4294967296) = _
  rw [wrap_u64 (by omega)]
  exact (Int.natCast_mul R W).symm
theorem or32 {R X : Nat} (h : R < W) (hX : X < W) : Go.bits .or .u64 ((R * W : Nat) : Int) ((X : Nat) : Int) = ((R * W + X : Nat) : Int) := by
  have h2 : R < 4294967296 := h
  have h3 : X < 4294967296 := hX
  have h4 : R * W < 2 ^ 64 := by show R * 4294967296 < 18446744073709551616; omega
  rw [bits_or64 h4 (by omega), or_add (show X < 2 ^ 32 from hX)]
theorem flat_zeros (k : Nat) : flat (eK .u32) (List.replicate k 0) ++ [] = List.replicate k (.int .u32 0) := by
  rw [List.append_nil, flatK_map, List.map_replicate]
/-- The words of ours, some of them zeros at the end. -/
theorem SO.cutW {r : Option Nat} {k Q j cap : Nat} {sp : List Value} (h : SO r k cap (flat (eK .u32) (wI k Q)) sp 1) (hj : j ≤ k) : SO r j cap (flat (eK .u32) (wI j Q)) (flat (eK .u32) ((wI k Q).drop j) ++ sp) 1 ∧ flat (eK .u32) (wI k Q) ++ sp = flat (eK .u32) (wI j Q) ++ (flat (eK .u32) ((wI k Q).drop j) ++ sp) := by
  have h1 := h.hcap
  have h2 := h.hle
  rw [flatK_length, wI_length] at h1
  refine ⟨⟨by rw [flatK_length, wI_length]; omega, by rw [flatK_length, wI_length, List.length_append, flatK_length, List.length_drop, wI_length]; omega, by omega, h.hnone⟩, ?_⟩
  rw [← List.append_assoc, ← flat_append, ← wI_take Q hj, List.take_append_drop]
end Go.Proofs.YtjaeblkgjbncmaaDoor
namespace Go.Proofs.YtjaeblkgjbncmaaDoor
set_option maxRecDepth 20000
set_option linter.unusedSimpArgs false
set_option linter.unusedVariables false
open Go Go.Fw
attribute [local irreducible] CW OL OD FX Stp FnC FnV Ret wI vd strOf ca mid zmid
set_option maxHeartbeats 800000

theorem divide_spec {M : View} {w : World} (hM : View.le M (View.of w)) {N d k c : Nat} (hd : 1 ≤ d ∧ d ≤ 256) (hN : N < W ^ k) (hk : k ≤ 100000) {a : Option Addr} {b o : Nat} (s : SlA M (eK .u32) 1 a (wI k N) b o) :
    FnC Tryd.prog 37 [.slice a k c, .int .u64 d] w (fun v new => ∃ u, v = .tuple #[u, .int .u64 (N % d : Nat)] ∧ WR (nd W (N / d)) (N / d) u new) := by
  refine enterF (M := M) Tryd.func37 rfl rfl rfl rfl hM ?_
  have hdW : d < W := by have : W = 4294967296 := rfl; omega
  generalize hQ : N / d = Q at *
  have hQk : Q < W ^ k := by rw [← hQ]; exact Nat.lt_of_le_of_lt (Nat.div_le_self _ _) hN
  repeat' first
    | apply cw_seq
    | (refine cw_region_id 0 ?_; (apply ol_as; exact rfl; exact rfl); (apply ol_as; exact rfl; exact rfl); (apply ol_nil))
    | (refine cw_region_id 1 ?_; (apply ol_mv; exact rfl; exact rfl); (apply ol_val; exact rfl; apply stp_pur; apply s_len; exact rfl; exact el_23); (apply ol_val; exact rfl; apply s_makeB; exact rfl; exact rfl; exact el_23; exact sz_51; exact zb_51; exact rfl; exact by_51; omega; omega; omega; intro bk12); (apply ol_as; exact rfl; exact rfl); (apply ol_nil))
    | (refine cw_region_id 2 ?_; (apply ol_as; exact rfl; exact rfl); (apply ol_nil))
    | (refine cw_region_id 3 ?_; (apply ol_mv; exact rfl; exact rfl); (apply ol_val; exact rfl; apply stp_pur; apply s_len; exact rfl; exact el_23); (apply ol_val; exact rfl; apply stp_pur; apply s_sub64; exact rfl; exact rfl; omega); (apply ol_as; exact rfl; exact rfl); (apply ol_nil))
    | (apply cw_cond_true; exact rfl; (first | exact rfl | assumption))
    | (apply cw_cond_false; exact rfl; (first | exact rfl | assumption))
    | apply cw_skip
    | apply cw_ret
    | apply cw_block
    | apply cw_exit
  refine cw_loopK (σ := Nat) [0, 1, 6] (by (repeat (first | exact Keep.nil | (apply Keep.cons; exact rfl)))) (fun j => [(7, .int .u64 (N / W ^ j % d : Nat)), (8, .int .i64 ((j : Int) - 1))]) (fun _ => M) (fun j => [⟨some bk12, flat (eK .u32) (zmid k Q j) ++ [], 51⟩]) (fun j => j ≤ k) (fun j => j) k (by rw [Nat.div_eq_of_lt hN, Nat.zero_mod]; (repeat (first | exact trivial | refine And.intro rfl ?_))) (View.le.refl _) (by rw [zmid_end, flat_zeros]; (repeat (first | exact Pick.nil | (apply Pick.cons; (focus ((repeat (first | exact Spl.here | apply Spl.there)); done))) | exact Pick.refl))) (Nat.le_refl _) ?_
  intro j hj
  by_cases h0 : j = 0
  · subst h0
    rw [zmid_zero]
    have hm : N / W ^ 0 % d = N % d := by rw [Nat.pow_zero, Nat.div_one]
    rw [hm]
    have hnd : nd W Q ≤ k := nd_le (by decide) hQk
    have so : SO (some bk12) k k (flat (eK .u32) (wI k Q)) [] 1 := ⟨by rw [flatK_length, wI_length]; omega, by rw [flatK_length, wI_length, List.length_nil]; omega, Nat.le_refl _, fun h => by cases h⟩
    have kt : ∀ (w' : World), OB.ok ⟨some bk12, flat (eK .u32) (wI k Q) ++ [], 51⟩ w' → FnC Tryd.prog 48 [.slice (some ⟨bk12, 0, none⟩) k k] w' (fun v _ => v = .slice (some ⟨bk12, 0, none⟩) (nd W Q) k) := fun w' ho =>
      rtrim_spec (View.le.refl _) hQk (by omega) (Nat.le_refl _) (SlA.ownW (A := none) ho so)
    repeat' first
      | apply cw_seq
      | (refine cw_region_id 4 ?_; (apply ol_mv; exact rfl; exact rfl); (apply ol_val; exact rfl; apply stp_cmp; apply s_geq; exact rfl; exact rfl; all_goals (intro hc17; try (exfalso; (first | exact hc17 rfl | omega)))); all_goals (apply ol_nil))
      | (refine cw_region_id 6 ?_; (apply ol_mv; exact rfl; exact rfl); (apply ol_val; exact rfl; apply stp_pur; apply s_shlW; exact rfl; exact rfl; (first | decide | omega | (simp [IntKind.bits]; omega) | (simp [IntKind.bits]; done))); (apply ol_mv; exact rfl; exact rfl); (apply ol_mv; exact rfl; exact rfl); (apply ol_val; exact rfl; apply stp_pur; first | (apply s_indexK; exact rfl; exact rfl; exact el_23; exact sz_51; (first | exact rfl); omega) | (apply s_indexO; exact rfl; exact rfl; exact el_23; exact sz_51; (first | exact rfl); omega)); (apply ol_ld; exact rfl; exact rfl; exact rfl; (apply RdN.own; (focus ((repeat constructor); done)); (first | exact GetN.cons rfl GetN.nil | (apply getN_ints_app; (first | omega | (simp; omega) | (simp; done))) | (apply getN_ints; (first | omega | (simp; omega) | (simp; done)))))); (apply ol_val; exact rfl; apply stp_pur; first | (apply s_conv; exact rfl; exact rfl; exact ti_41; (focus (apply wrap_u64; omega))) | (apply s_conv; exact rfl; exact rfl; exact ti_41; exact rfl)); (apply ol_val; exact rfl; apply stp_pur; apply s_or; exact rfl; exact rfl); (apply ol_as; exact rfl; exact rfl); (apply ol_nil))
      | (refine cw_region_id 7 ?_; (apply ol_mv; exact rfl; exact rfl); (apply ol_mv; exact rfl; exact rfl); (apply ol_mv; exact rfl; exact rfl); (apply ol_mv; exact rfl; exact rfl); (apply ol_val; exact rfl; apply stp_pur; apply s_quoN; exact rfl; exact rfl; (first | omega | (dsimp only [highK]; omega))); (apply ol_val; exact rfl; apply stp_pur; first | (apply s_conv; exact rfl; exact rfl; exact ti_51; (focus (apply wrap_u32; omega))) | (apply s_conv; exact rfl; exact rfl; exact ti_51; exact rfl)); (apply ol_val; exact rfl; apply stp_pur; first | (apply s_indexK; exact rfl; exact rfl; exact el_23; exact sz_51; (first | exact rfl); omega) | (apply s_indexO; exact rfl; exact rfl; exact el_23; exact sz_51; (first | exact rfl); omega)); (apply ol_eff; apply s_store1; exact rfl; exact rfl; exact sz_51; exact rfl; (focus ((repeat constructor); done)); (first | (focus ((repeat constructor); done)) | (apply setAt_ints_app; (first | omega | (simp; omega) | (simp; done))) | (apply setAt_ints; (first | omega | (simp; omega) | (simp; done))) | (apply SetAt.set; (first | omega | (simp; omega) | (simp; done))))); (apply ol_nil))
      | (refine cw_region_id 8 ?_; (apply ol_mv; exact rfl; exact rfl); (apply ol_mv; exact rfl; exact rfl); (apply ol_val; exact rfl; apply stp_pur; first | (apply s_rem64; exact rfl; exact rfl; omega) | (apply s_remT; exact rfl; exact rfl; omega)); (apply ol_as; exact rfl; exact rfl); (apply ol_nil))
      | (refine cw_region_id 5 ?_; (apply ol_mv; exact rfl; exact rfl); (apply ol_val; exact rfl; apply stp_pur; apply s_sub64; exact rfl; exact rfl; omega); (apply ol_as; exact rfl; exact rfl); (apply ol_nil))
      | (refine cw_region_id 9 ?_; (apply ol_mv; exact rfl; exact rfl); (apply ol_val; exact rfl; apply s_callv; exact rfl; exact gf_48; (intro w' hw'; exact kt w' (hw'.ok_ (by (repeat (first | exact Has.here | apply Has.there)))))); (apply ol_mv; exact rfl; exact rfl); (apply ol_as; exact rfl; exact rfl); (apply ol_as; exact rfl; exact rfl); (apply ol_nil))
      | (apply cw_cond_true; exact rfl; (first | exact rfl | assumption))
      | (apply cw_cond_false; exact rfl; (first | exact rfl | assumption))
      | apply cw_skip
      | apply cw_ret
      | apply cw_block
      | apply cw_exit
    obtain ⟨s1, s2⟩ := SO.cutW so hnd
    refine ends [⟨some bk12, flat (eK .u32) (wI k Q) ++ [], 51⟩] (RVal.tmp rfl (RVal.tmp rfl RVal.nil)) (by (repeat (first | exact Pick.nil | (apply Pick.cons; (focus ((repeat (first | exact Spl.here | apply Spl.there)); done))) | exact Pick.refl))) ?_
    exact ⟨_, rfl, some bk12, none, k, _, rfl, by rw [s2], s1⟩
  · obtain ⟨i, rfl⟩ : ∃ i, j = i + 1 := ⟨j - 1, by omega⟩
    have hik : i < k := by omega
    have hl : i < (wI k N).length := by rw [wI_length]; omega
    have hc := s.cells i hl
    rw [wI_get hl] at hc
    have hlen := zmid_length (Q := Q) hj
    have hset := zmid_set (Q := Q) hik
    have hw := div_word (N := N) (i := i) (show 0 < d by omega) (Nat.le_of_lt hdW)
    have hr := (div_step (N := N) (i := i) (show 0 < d by omega)).2
    rw [hQ] at hw
    have hX : N / W ^ i % W < W := Nat.mod_lt _ W_pos
    have hR : N / W ^ (i + 1) % d < d := Nat.mod_lt _ (by omega)
    have hwl : Q / W ^ i % W < W := Nat.mod_lt _ W_pos
    generalize Q / W ^ i % W = q at *
    generalize N / W ^ i % W = X at *
    generalize N / W ^ (i + 1) % d = R at *
    have hs := shl32 (R := R) (by omega)
    have ho := or32 (R := R) (X := X) (by omega) hX
    have hX32 : X < 4294967296 := hX
    have hA64 : R * W + X < 18446744073709551616 := by
      have h1 : (R + 1) * W ≤ W * W := Nat.mul_le_mul_right _ (by omega)
      rw [Nat.add_mul] at h1
      have h2 : W * W = 18446744073709551616 := rfl
      omega
    generalize R * W + X = Y at *
    generalize R * W = Z at *
    have ew : IntKind.u32.wrap (((Y : Nat) : Int) / ((d : Nat) : Int)) = ((q : Nat) : Int) := by
      rw [← Int.natCast_ediv, hw]
      exact wrap_u32 (by have : W = 4294967296 := rfl; omega)
    have er : ((Y : Nat) : Int) % ((d : Nat) : Int) = ((N / W ^ i % d : Nat) : Int) := by rw [← Int.natCast_emod, hr]
    have e1 : ((i + 1 : Nat) : Int) - 1 = ((i : Nat) : Int) := by omega
    rw [e1]
    generalize hB : zmid k Q (i + 1) = B at *
    have hs2 : SetAt (flat (eK .u32) B ++ []) (0 + i * 1) (.int .u32 ((q : Nat) : Int)) (flat (eK .u32) (zmid k Q i) ++ []) := by
      have := setAtK (k := .u32) (sp := []) (v := ((q : Nat) : Int)) (show i < B.length by omega)
      rwa [hset] at this
    repeat' first
      | apply cw_seq
      | (refine cw_region_id 4 ?_; (apply ol_mv; exact rfl; exact rfl); (apply ol_val; exact rfl; apply stp_cmp; apply s_geq; exact rfl; exact rfl; all_goals (intro hc17; try (exfalso; (first | exact hc17 rfl | omega)))); all_goals (apply ol_nil))
      | (refine cw_region_id 6 ?_; (apply ol_mv; exact rfl; exact rfl); (apply ol_val; exact rfl; apply stp_pur; apply s_shlF; exact rfl; exact rfl; (first | decide | omega | (simp [IntKind.bits]; omega) | (simp [IntKind.bits]; done)); exact hs); (apply ol_mv; exact rfl; exact rfl); (apply ol_mv; exact rfl; exact rfl); (apply ol_val; exact rfl; apply stp_pur; first | (apply s_indexK; exact rfl; exact rfl; exact el_23; exact sz_51; (first | exact rfl | (first | exact s.at_ (by rw [wI_length]; omega) | exact rfl)); omega) | (apply s_indexO; exact rfl; exact rfl; exact el_23; exact sz_51; (first | exact rfl | (first | exact s.at_ (by rw [wI_length]; omega) | exact rfl)); omega)); (apply ol_ld; exact rfl; exact rfl; exact rfl; (first | (apply RdN.own; (focus ((repeat constructor); done)); (first | exact GetN.cons rfl GetN.nil | (apply getN_ints_app; (first | omega | (simp; omega) | (simp; done))) | (apply getN_ints; (first | omega | (simp; omega) | (simp; done))))) | (apply RdN.view; exact hc))); (apply ol_val; exact rfl; apply stp_pur; first | (apply s_conv; exact rfl; exact rfl; exact ti_41; (focus (apply wrap_u64; omega))) | (apply s_conv; exact rfl; exact rfl; exact ti_41; exact ew) | (apply s_conv; exact rfl; exact rfl; exact ti_41; exact rfl)); (apply ol_val; exact rfl; apply stp_pur; apply s_orE; exact rfl; exact rfl; exact ho); (apply ol_as; exact rfl; exact rfl); (apply ol_nil))
      | (refine cw_region_id 7 ?_; (apply ol_mv; exact rfl; exact rfl); (apply ol_mv; exact rfl; exact rfl); (apply ol_mv; exact rfl; exact rfl); (apply ol_mv; exact rfl; exact rfl); (apply ol_val; exact rfl; apply stp_pur; apply s_quoN; exact rfl; exact rfl; (first | omega | (dsimp only [highK]; omega))); (apply ol_val; exact rfl; apply stp_pur; first | (apply s_conv; exact rfl; exact rfl; exact ti_51; (focus (apply wrap_u32; omega))) | (apply s_conv; exact rfl; exact rfl; exact ti_51; exact ew) | (apply s_conv; exact rfl; exact rfl; exact ti_51; exact rfl)); (apply ol_val; exact rfl; apply stp_pur; first | (apply s_indexK; exact rfl; exact rfl; exact el_23; exact sz_51; (first | exact rfl | (first | exact s.at_ (by rw [wI_length]; omega) | exact rfl)); omega) | (apply s_indexO; exact rfl; exact rfl; exact el_23; exact sz_51; (first | exact rfl | (first | exact s.at_ (by rw [wI_length]; omega) | exact rfl)); omega)); (apply ol_eff; apply s_store1; exact rfl; exact rfl; exact sz_51; exact rfl; (focus ((repeat constructor); done)); (first | (focus ((repeat constructor); done)) | (apply setAt_ints_app; (first | omega | (simp; omega) | (simp; done))) | (apply setAt_ints; (first | omega | (simp; omega) | (simp; done))) | exact hs2 | (apply SetAt.set; (first | omega | (simp; omega) | (simp; done))))); (apply ol_nil))
      | (refine cw_region_id 8 ?_; (apply ol_mv; exact rfl; exact rfl); (apply ol_mv; exact rfl; exact rfl); (apply ol_val; exact rfl; apply stp_pur; apply s_remE; exact rfl; exact rfl; omega; exact er); (apply ol_as; exact rfl; exact rfl); (apply ol_nil))
      | (refine cw_region_id 5 ?_; (apply ol_mv; exact rfl; exact rfl); (apply ol_val; exact rfl; apply stp_pur; apply s_sub64; exact rfl; exact rfl; omega); (apply ol_as; exact rfl; exact rfl); (apply ol_nil))
      | (refine cw_region_id 9 ?_; (apply ol_mv; exact rfl; exact rfl))
      | (apply cw_cond_true; exact rfl; (first | exact rfl | assumption))
      | (apply cw_cond_false; exact rfl; (first | exact rfl | assumption))
      | apply cw_skip
      | apply cw_ret
      | apply cw_block
      | apply cw_exit
    exact ⟨i, ⟨by (repeat (first | exact trivial | refine And.intro rfl ?_)), View.le.refl _, by (repeat (first | exact Pick.nil | (apply Pick.cons; (focus ((repeat (first | exact Spl.here | apply Spl.there)); done))) | exact Pick.refl)), by omega, by omega⟩⟩
end Go.Proofs.YtjaeblkgjbncmaaDoor
