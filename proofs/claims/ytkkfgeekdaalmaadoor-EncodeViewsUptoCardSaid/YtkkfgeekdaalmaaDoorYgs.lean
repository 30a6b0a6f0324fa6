/-
  Texts joined: Ty N0 D1 X1 X2 X3 X4 X5 X6 X7 X8 E1 Q1 Q2 Q3.
-/
import Derived.Test.YtkkfgeekdaalmaaDoorYgr
import Derived.Test.YtkkfgeekdaalmaaDoorProg
import Derived.KernelRfl
namespace Go.Proofs.YtkkfgeekdaalmaaDoor
open Go Go.Fw
theorem mixed : Tryd.prog.follows .mixedOrders = true := by kernel_rfl
theorem fd_25_0 : fieldB Tryd.prog 25 0 = some 0 := by kernel_rfl
theorem fd_25_1 : fieldB Tryd.prog 25 1 = some 1 := by kernel_rfl
theorem fd_25_2 : fieldB Tryd.prog 25 2 = some 2 := by kernel_rfl
theorem fd_25_3 : fieldB Tryd.prog 25 3 = some 3 := by kernel_rfl
theorem fd_60_0 : fieldB Tryd.prog 60 0 = some 0 := by kernel_rfl
theorem fd_60_1 : fieldB Tryd.prog 60 1 = some 1 := by kernel_rfl
theorem sz_3 : sizeB Tryd.prog 3 = some 1 := by kernel_rfl
theorem sz_5 : sizeB Tryd.prog 5 = some 1 := by kernel_rfl
theorem sz_22 : sizeB Tryd.prog 22 = some 1 := by kernel_rfl
theorem sz_23 : sizeB Tryd.prog 23 = some 1 := by kernel_rfl
theorem sz_25 : sizeB Tryd.prog 25 = some 4 := by kernel_rfl
theorem sz_28 : sizeB Tryd.prog 28 = some 1 := by kernel_rfl
theorem by_3 : bytesB Tryd.prog 3 = some 8 := by kernel_rfl
theorem by_5 : bytesB Tryd.prog 5 = some 1 := by kernel_rfl
theorem by_25 : bytesB Tryd.prog 25 = some 64 := by kernel_rfl
theorem el_22 : tdSlice Tryd.prog 22 = some 5 := by kernel_rfl
theorem el_23 : tdSlice Tryd.prog 23 = some 25 := by kernel_rfl
theorem el_45 : tdSlice Tryd.prog 45 = some 3 := by kernel_rfl
theorem ar_74 : tdArray Tryd.prog 74 = some (24, 5) := by kernel_rfl
theorem zb_3 : zeroB Tryd.prog 3 = some (.int .i64 0) := by kernel_rfl
theorem zb_5 : zeroB Tryd.prog 5 = some (.int .u8 0) := by kernel_rfl
theorem zb_25 : zeroB Tryd.prog 25 = some (.agg [.int .i64 0, .int .i64 0, .slice none 0 0, .slice none 0 0].toArray) := by kernel_rfl
theorem zb_60 : zeroB Tryd.prog 60 = some (.agg [.slice none 0 0, .int .i64 0].toArray) := by kernel_rfl
theorem fs_25 : fieldsB Tryd.prog 25 = some [(0, 1), (1, 1), (2, 1), (3, 1)] := by kernel_rfl
theorem fs_60 : fieldsB Tryd.prog 60 = some [(0, 1), (1, 1)] := by kernel_rfl
theorem ti_3 : tdInt Tryd.prog 3 = some .i64 := by kernel_rfl
theorem ti_5 : tdInt Tryd.prog 5 = some .u8 := by kernel_rfl
theorem ti_57 : tdInt Tryd.prog 57 = some .u64 := by kernel_rfl
theorem zk_74 : zeroB Tryd.prog 74 = some (.agg (flat (eK .u8) (List.replicate 24 0)).toArray) := by kernel_rfl
theorem ub_4 : Tryd.prog.underlying 4 = some .bool := by kernel_rfl
theorem us_9 : Tryd.prog.underlying 9 = some .string := by kernel_rfl
theorem gf_10 : goFunc Tryd.prog 10 = true := by kernel_rfl
theorem gf_11 : goFunc Tryd.prog 11 = true := by kernel_rfl
theorem gf_12 : goFunc Tryd.prog 12 = true := by kernel_rfl
theorem gf_13 : goFunc Tryd.prog 13 = true := by kernel_rfl
theorem gf_14 : goFunc Tryd.prog 14 = true := by kernel_rfl
theorem gf_16 : goFunc Tryd.prog 16 = true := by kernel_rfl
theorem gf_17 : goFunc Tryd.prog 17 = true := by kernel_rfl
theorem gf_19 : goFunc Tryd.prog 19 = true := by kernel_rfl
theorem gf_20 : goFunc Tryd.prog 20 = true := by kernel_rfl
theorem gf_22 : goFunc Tryd.prog 22 = true := by kernel_rfl
theorem gf_23 : goFunc Tryd.prog 23 = true := by kernel_rfl
theorem gf_24 : goFunc Tryd.prog 24 = true := by kernel_rfl
theorem gf_26 : goFunc Tryd.prog 26 = true := by kernel_rfl
theorem gf_28 : goFunc Tryd.prog 28 = true := by kernel_rfl
theorem gf_29 : goFunc Tryd.prog 29 = true := by kernel_rfl
theorem gf_30 : goFunc Tryd.prog 30 = true := by kernel_rfl
theorem gf_32 : goFunc Tryd.prog 32 = true := by kernel_rfl
theorem gf_33 : goFunc Tryd.prog 33 = true := by kernel_rfl
theorem gf_35 : goFunc Tryd.prog 35 = true := by kernel_rfl
theorem gf_36 : goFunc Tryd.prog 36 = true := by kernel_rfl
theorem gf_37 : goFunc Tryd.prog 37 = true := by kernel_rfl
theorem gf_39 : goFunc Tryd.prog 39 = true := by kernel_rfl
theorem gf_40 : goFunc Tryd.prog 40 = true := by kernel_rfl
theorem gf_42 : goFunc Tryd.prog 42 = true := by kernel_rfl
theorem gf_43 : goFunc Tryd.prog 43 = true := by kernel_rfl
theorem gf_44 : goFunc Tryd.prog 44 = true := by kernel_rfl
theorem gf_45 : goFunc Tryd.prog 45 = true := by kernel_rfl
theorem gf_48 : goFunc Tryd.prog 48 = true := by kernel_rfl
theorem gf_49 : goFunc Tryd.prog 49 = true := by kernel_rfl
theorem gf_51 : goFunc Tryd.prog 51 = true := by kernel_rfl
theorem gf_52 : goFunc Tryd.prog 52 = true := by kernel_rfl
theorem gf_53 : goFunc Tryd.prog 53 = true := by kernel_rfl
theorem gf_54 : goFunc Tryd.prog 54 = true := by kernel_rfl
theorem gf_55 : goFunc Tryd.prog 55 = true := by kernel_rfl
theorem gf_56 : goFunc Tryd.prog 56 = true := by kernel_rfl
theorem gf_57 : goFunc Tryd.prog 57 = true := by kernel_rfl
end Go.Proofs.YtkkfgeekdaalmaaDoor
namespace Go.Proofs.YtkkfgeekdaalmaaDoor
set_option maxRecDepth 20000
set_option linter.unusedSimpArgs false
set_option linter.unusedVariables false
/-- The first k digits of n, the lowest one first. -/
def lw (b k n : Nat) : List Nat := (List.range k).map fun i => n / b ^ i % b
theorem lw_length (b k n : Nat) : (lw b k n).length = k := by simp [lw]
theorem lw_get {b k n i : Nat} (h : i < (lw b k n).length) : (lw b k n)[i] = n / b ^ i % b := by simp [lw]
theorem lw_zero (b n : Nat) : lw b 0 n = [] := rfl
theorem lw_succ (b k n : Nat) : lw b (k + 1) n = lw b k n ++ [n / b ^ k % b] := by simp [lw, List.range_succ]
theorem lw_add (b j k n : Nat) : lw b (j + k) n = lw b j n ++ lw b k (n / b ^ j) := by
  induction k with
  | zero => simp [lw_zero]
  | succ k ih =>
    rw [← Nat.add_assoc, lw_succ, lw_succ, ih, List.append_assoc, Nat.div_div_eq_div_mul, Nat.pow_add]
theorem lw_cons (b k n : Nat) : lw b (k + 1) n = n % b :: lw b k (n / b) := by
  rw [Nat.add_comm, lw_add, Nat.pow_one]
  simp [lw, List.range_succ]
theorem lw_mod {b j k : Nat} (n : Nat) (h : k ≤ j) : lw b k (n % b ^ j) = lw b k n := by
  unfold lw
  refine List.map_congr_left fun i hi => ?_
  have hi : i < k := List.mem_range.1 hi
  obtain ⟨m, rfl⟩ : ∃ m, j = i + (m + 1) := ⟨j - i - 1, by omega⟩
  rw [Nat.pow_add, Nat.mod_mul_right_div_self, Nat.mod_mod_of_dvd _ (by rw [Nat.pow_succ]; exact Nat.dvd_mul_left _ _)]
theorem lw_lt {b : Nat} (hb : 0 < b) (k n : Nat) : ∀ x ∈ lw b k n, x < b := by
  intro x hx
  obtain ⟨i, _, rfl⟩ := List.mem_map.1 hx
  exact Nat.mod_lt _ hb
/-- The number of some digits, the lowest one first. -/
def vl (b : Nat) : List Nat → Nat
  | [] => 0
  | x :: r => x + b * vl b r
theorem vl_append (b : Nat) (l r : List Nat) : vl b (l ++ r) = vl b l + b ^ l.length * vl b r := by
  induction l with
  | nil => simp [vl]
  | cons x l ih => simp only [List.cons_append, vl, ih, List.length_cons]; rw [Nat.pow_succ, Nat.mul_add, Nat.add_assoc, Nat.mul_comm (b ^ l.length) b, Nat.mul_assoc]
theorem lw_vl {b : Nat} : ∀ {l : List Nat}, (∀ x ∈ l, x < b) → lw b l.length (vl b l) = l
  | [], _ => rfl
  | x :: r, h => by
    have hx := h x (by simp)
    have hb : 0 < b := by omega
    rw [List.length_cons, lw_cons, vl, Nat.add_mul_mod_self_left, Nat.mod_eq_of_lt hx, Nat.add_mul_div_left _ _ hb, Nat.div_eq_of_lt hx, Nat.zero_add, lw_vl fun y hy => h y (by simp [hy])]
theorem vl_lt {b : Nat} : ∀ {l : List Nat}, (∀ x ∈ l, x < b) → vl b l < b ^ l.length
  | [], _ => by simp [vl]
  | x :: r, h => by
    have hx := h x (by simp)
    have := vl_lt (l := r) fun y hy => h y (by simp [hy])
    rw [List.length_cons, vl, Nat.pow_succ']
    have h2 : b * (vl b r + 1) ≤ b * b ^ r.length := Nat.mul_le_mul_left _ this
    rw [Nat.mul_add, Nat.mul_one] at h2
    omega
/-- How many digits a number has: none if it is 0. -/
def nd (b n : Nat) : Nat := if h : n = 0 ∨ b < 2 then 0 else nd b (n / b) + 1
termination_by n
decreasing_by exact Nat.div_lt_self (by omega) (by omega)
theorem nd_zero (b : Nat) : nd b 0 = 0 := by unfold nd; simp
theorem nd_pos {b n : Nat} (hb : 2 ≤ b) (hn : 0 < n) : nd b n = nd b (n / b) + 1 := by
  rw [nd, dif_neg (by omega)]
theorem nd_lt {b : Nat} (hb : 2 ≤ b) (n : Nat) : n < b ^ nd b n := by
  induction n using Nat.strongRecOn with
  | _ n ih =>
    by_cases h : n = 0
    · subst h; rw [nd_zero]; exact Nat.one_pos
    · rw [nd_pos hb (by omega), Nat.pow_succ]
      have := ih (n / b) (Nat.div_lt_self (by omega) (by omega))
      exact (Nat.div_lt_iff_lt_mul (by omega)).1 this
theorem nd_le {b : Nat} (hb : 2 ≤ b) {n k : Nat} (h : n < b ^ k) : nd b n ≤ k := by
  induction k generalizing n with
  | zero => obtain rfl : n = 0 := by simp at h; exact h
            rw [nd_zero]; exact Nat.zero_le _
  | succ k ih =>
    by_cases h0 : n = 0
    · subst h0; rw [nd_zero]; omega
    · rw [nd_pos hb (by omega)]
      have : n / b < b ^ k := (Nat.div_lt_iff_lt_mul (by omega)).2 (by rwa [← Nat.pow_succ])
      have := ih this
      omega
theorem nd_le_iff {b : Nat} (hb : 2 ≤ b) {n k : Nat} : nd b n ≤ k ↔ n < b ^ k :=
  ⟨fun h => Nat.lt_of_lt_of_le (nd_lt hb n) (Nat.pow_le_pow_right (by omega) h), nd_le hb⟩
theorem nd_zero_iff {b : Nat} (hb : 2 ≤ b) {n : Nat} : nd b n = 0 ↔ n = 0 := by
  constructor
  · intro h
    have := nd_lt hb n
    rw [h] at this
    simp at this
    exact this
  · rintro rfl; exact nd_zero b
/-- The number has so many digits exactly if it is below the power, and the highest digit is none or not 0. -/
theorem nd_eq {b : Nat} (hb : 2 ≤ b) {n k : Nat} (h : n < b ^ k) (ht : 0 < k → n / b ^ (k - 1) % b ≠ 0) : nd b n = k := by
  refine Nat.le_antisymm (nd_le hb h) ?_
  cases k with
  | zero => exact Nat.zero_le _
  | succ k =>
    refine Nat.succ_le_of_lt (Nat.not_le.1 fun hle => ?_)
    have hlt := (nd_le_iff hb).1 hle
    have := ht (by omega)
    simp only [Nat.add_sub_cancel] at this
    rw [Nat.div_eq_of_lt hlt] at this
    simp at this
theorem nd_top {b : Nat} (hb : 2 ≤ b) {n : Nat} (hn : 0 < n) : n / b ^ (nd b n - 1) % b ≠ 0 := by
  have h1 := nd_lt hb n
  have h2 : nd b n ≠ 0 := fun h => by rw [nd_zero_iff hb] at h; omega
  obtain ⟨k, hk⟩ : ∃ k, nd b n = k + 1 := ⟨nd b n - 1, by omega⟩
  rw [hk] at h1 ⊢
  simp only [Nat.add_sub_cancel]
  have h3 : ¬ n < b ^ k := fun h => by have := nd_le hb h; omega
  have h4 : n / b ^ k < b := (Nat.div_lt_iff_lt_mul (Nat.pow_pos (by omega))).2 (by rwa [Nat.pow_succ'] at h1)
  rw [Nat.mod_eq_of_lt h4]
  have := Nat.div_pos (Nat.not_lt.1 h3) (Nat.pow_pos (n := k) (show 0 < b by omega))
  omega
/-- All digits, the lowest first. -/
abbrev dg (b n : Nat) : List Nat := lw b (nd b n) n
/-- A digit as a letter. -/
def chr (d : Nat) : Int := if d < 10 then 48 + (d : Int) else 87 + (d : Int)
/-- The text of a number. -/
def txt (b n : Nat) : List Int := if n = 0 then [48] else (dg b n).reverse.map chr
/-- The value of a letter; 16: it is none. -/
def valc (c : Int) : Nat := if 48 ≤ c ∧ c ≤ 57 then (c - 48).toNat else if 97 ≤ c ∧ c ≤ 102 then (c - 87).toNat else 16
theorem chr_b {d : Nat} (h : d < 16) : 48 ≤ chr d ∧ chr d ≤ 102 := by unfold chr; split <;> omega
/-- The number of a text of digits. -/
def num (b : Nat) (l : List Int) : Nat := vl b (l.map valc).reverse
/-- What a text must be to be read. -/
def isT (b : Nat) (l : List Int) : Prop := l ≠ [] ∧ (l.head? = some 48 → l.length ≤ 1) ∧ ∀ c ∈ l, valc c < b
end Go.Proofs.YtkkfgeekdaalmaaDoor
namespace Go.Proofs.YtkkfgeekdaalmaaDoor
set_option maxRecDepth 20000
set_option linter.unusedSimpArgs false
set_option linter.unusedVariables false
open Go Go.Fw
/-- The bytes of a number, the highest first. -/
def bI (k N : Nat) : List Int := (lw 256 k N).reverse.map fun n : Nat => (n : Int)
theorem bI_length (k N : Nat) : (bI k N).length = k := by unfold bI; rw [List.length_map, List.length_reverse, lw_length]
theorem pow8 (r : Nat) : (2 : Nat) ^ (8 * r) = 256 ^ r := by rw [Nat.pow_mul]
theorem bI_get {k N i : Nat} (h : i < k) : (bI k N)[i]? = some ((N / 256 ^ (k - 1 - i) % 256 : Nat) : Int) := by
  unfold bI
  rw [List.getElem?_map, List.getElem?_reverse (by rw [lw_length]; exact h), lw_length]
  have h2 : k - 1 - i < (lw 256 k N).length := by rw [lw_length]; omega
  rw [List.getElem?_eq_getElem h2, lw_get]
  rfl
theorem bI_take {k N i : Nat} (h : i < k) : (bI k N).take (i + 1) = (bI k N).take i ++ [((N / 256 ^ (k - 1 - i) % 256 : Nat) : Int)] := by
  have hl : i < (bI k N).length := by rw [bI_length]; exact h
  rw [List.take_succ_eq_append_getElem hl]
  congr 2
  have := bI_get (N := N) h
  rw [List.getElem?_eq_getElem hl] at this
  exact Option.some.inj this
/-- An int as a 64-bit number. -/
def u64 (n : Int) : Nat := (IntKind.u64.wrap n).toNat
theorem u64_cast (n : Int) : ((u64 n : Nat) : Int) = IntKind.u64.wrap n := by
  unfold u64
  have : 0 ≤ IntKind.u64.wrap n := by rw [wrapU64]; omega
  omega
theorem u64_nat {n : Nat} (h : n < 18446744073709551616) : u64 (n : Int) = n := by
  unfold u64
  rw [wrap_u64 (by omega)]
  omega
/-- What stands at the head of an item. -/
structure Hd where
  k : Int
  n : Int
  B : Sl Int
  La : Option Addr
  Lb : Nat
  Lo : Nat
  Lc : Nat
  m : Nat
/-- An item, so deep as it is read. -/
def It : Nat → Type
  | 0 => Hd
  | d + 1 => Hd × List (It d)
def It.hd : {d : Nat} → It d → Hd
  | 0, h => h
  | _ + 1, p => p.1
def It.enc {d : Nat} (x : It d) : List Value := [.int .i64 x.hd.k, .int .i64 x.hd.n, .slice x.hd.B.a x.hd.B.xs.length x.hd.B.c, .slice x.hd.La x.hd.m x.hd.Lc]
theorem It.enc_length {d : Nat} (x : It d) : x.enc.length = 4 := rfl
theorem It.ones {d : Nat} (x : It d) : Fw.ones x.enc = true := rfl
def HdV (M : View) (h : Hd) : Prop := SlA M (eK .u8) 1 h.B.a h.B.xs h.B.b h.B.o ∧ (∀ x ∈ h.B.xs, 0 ≤ x ∧ x ≤ 255) ∧ h.B.xs.length ≤ 140737488355328 ∧ h.m ≤ 140737488355328
/-- The item is there. -/
def ItV (M : View) : (d : Nat) → It d → Prop
  | 0, h => HdV M h
  | d + 1, p => HdV M p.1 ∧ p.2.length = p.1.m ∧ SlA M It.enc 4 p.1.La p.2 p.1.Lb p.1.Lo ∧ ∀ x ∈ p.2, ItV M d x
theorem HdV.mono {M N : View} {h : Hd} (hv : HdV M h) (hM : View.le M N) : HdV N h := ⟨hv.1.mono hM, hv.2⟩
theorem ItV.mono {M N : View} (hM : View.le M N) : ∀ {d : Nat} {x : It d}, ItV M d x → ItV N d x
  | 0, _, h => HdV.mono h hM
  | d + 1, _, ⟨h1, h2, h3, h4⟩ => ⟨h1.mono hM, h2, h3.mono hM, fun x hx => ItV.mono hM (h4 x hx)⟩
theorem ItV.head {M : View} : ∀ {d : Nat} {x : It d}, ItV M d x → HdV M x.hd
  | 0, _, h => h
  | _ + 1, _, h => h.1
/-- Is the head of an integer, or of bytes, a valid one? -/
def okH (h : Hd) : Bool := decide (h.k = 1 ∧ h.B.xs.length = 0 ∧ h.m = 0 ∨ h.k = 2 ∧ h.n = 0 ∧ h.m = 0)
/-- Is the item valid? -/
def okI : (d : Nat) → It d → Bool
  | 0, h => okH h
  | d + 1, p => if p.1.k = 3 then decide (p.1.n = 0 ∧ p.1.B.xs.length = 0 ∧ p.1.m ≤ 1000) && p.2.all (okI d) else okH p.1
def encH (h : Hd) : List Int := if h.k = 1 then 1 :: bI 8 (u64 h.n) else 2 :: (bI 4 h.B.xs.length ++ h.B.xs)
/-- The encoding. -/
def encI : (d : Nat) → It d → List Int
  | 0, h => encH h
  | d + 1, p => if p.1.k = 3 then 3 :: (bI 4 p.1.m ++ p.2.flatMap (encI d)) else encH p.1
end Go.Proofs.YtkkfgeekdaalmaaDoor
namespace Go.Proofs.YtkkfgeekdaalmaaDoor
set_option maxRecDepth 20000
set_option linter.unusedSimpArgs false
set_option linter.unusedVariables false
open Go Go.Fw
theorem okH_1 {h : Hd} (e : h.k = 1) : okH h = decide (h.B.xs.length = 0 ∧ h.m = 0) := by unfold okH; rw [e]; simp
theorem okH_2 {h : Hd} (e : h.k = 2) : okH h = decide (h.n = 0 ∧ h.m = 0) := by unfold okH; rw [e]; simp
theorem okH_0 {h : Hd} (e1 : h.k ≠ 1) (e2 : h.k ≠ 2) : okH h = false := by unfold okH; simp [e1, e2]
theorem okI_leaf {d : Nat} {x : It d} (h3 : x.hd.k ≠ 3 ∨ d = 0) : okI d x = okH x.hd := by
  cases d with
  | zero => rfl
  | succ d =>
    have h : ¬ x.1.k = 3 := by rcases h3 with h | h; exact h; omega
    unfold okI
    rw [if_neg h]
    rfl
end Go.Proofs.YtkkfgeekdaalmaaDoor
namespace Go.Proofs.YtkkfgeekdaalmaaDoor
set_option maxRecDepth 20000
set_option linter.unusedSimpArgs false
set_option linter.unusedVariables false
open Go Go.Fw
attribute [local irreducible] CW OL OD FX Stp FnC FnV Ret
set_option maxHeartbeats 800000
theorem anyItIdx_spec {dd : Nat} {M : View} {w : World} (hM : View.le M (View.of w)) {f : Nat} {cap : List Value} {p : (It dd) → Bool} (hg : goFunc Tryd.prog f = true) {xs : List (It dd)} (hp : ∀ (w' : World) (x : (It dd)), x ∈ xs → View.le M (View.of w') → FnC Tryd.prog f ([.agg x.enc.toArray] ++ cap) w' (fun v _ => v = .bool (p x)))
    {i : Int} (hi : idxI p xs = i) {n : Nat} (hn : xs.length = n) {a : Option Addr} {b o c : Nat} (s : SlA M It.enc 4 a xs b o) (hl : xs.length ≤ 4611686018427387904) :
    FnC Tryd.prog 42 [.slice a n c, .func (.func f) #[] cap.toArray] w (fun v _ => v = .int .i64 i) := by
  subst hi hn
  refine enterF (M := M) Tryd.func42 rfl rfl rfl rfl hM ?_
  repeat' first
    | apply cw_seq
    | (refine cw_region_id 0 ?_; (apply ol_as; rfl; rfl); (apply ol_nil))
    | (refine cw_region_id 1 ?_; (apply ol_mv; rfl; rfl); (apply ol_val; rfl; apply stp_pur; apply s_len; rfl; exact el_23); (apply ol_mv; rfl; rfl); (apply ol_nil))
    | (apply cw_cond_true; rfl; exact qA)
    | (apply cw_cond_false; rfl; exact qA)
    | apply cw_skip
    | apply cw_ret
    | apply cw_block
    | apply cw_exit
  refine cw_loopK (σ := Nat) [0, 1, 7] (by (repeat (first | exact Keep.nil | (apply Keep.cons; rfl)))) (fun k => [(8, .int .i64 k)]) (fun _ => M) (fun _ => []) (fun k => k ≤ xs.length ∧ (xs.take k).any p = false) (fun k => xs.length - k) 0 (by (repeat (first | exact trivial | refine And.intro rfl ?_))) (View.le.refl _) (by exact qK) ⟨by omega, by simp⟩ ?_
  intro k ⟨hk, ht⟩
  by_cases hk' : k < xs.length
  · have hsp : xs = xs.take k ++ xs[k] :: xs.drop (k + 1) := by simp
    cases hpx : p xs[k] with
    | true =>
      repeat' first
        | apply cw_seq
        | (refine cw_region_id 2 ?_; (apply ol_val; rfl; apply stp_cmp; apply s_lss; rfl; rfl; all_goals (intro _; try (exfalso; (first | (rename_i hh; exact hh rfl) | omega)))); all_goals (apply ol_nil))
        | (refine cw_region_id 3 ?_; (apply ol_mv; rfl; rfl); (apply ol_as; rfl; rfl); (apply ol_nil))
        | (refine cw_region_id 4 ?_; (apply ol_mv; rfl; rfl); (apply ol_mv; rfl; rfl); (apply ol_mv; rfl; rfl); (apply ol_val; rfl; apply stp_pur; first | (apply s_indexK; rfl; rfl; exact el_23; exact sz_25; (first | rfl | exact s.at_ (by omega)); omega) | (apply s_indexO; rfl; rfl; exact el_23; exact sz_25; (first | rfl | exact s.at_ (by omega)); omega)); (apply ol_ldN; rfl; rfl; rfl; exact sz_25; (first | exact qQ | (apply RdN.view; exact s.cells _ (by omega)))); (apply ol_val; rfl; (apply s_clov (fs := []); rfl; rfl; exact hg; (intro w' hw'; exact hp w' xs[k] (List.getElem_mem _) hw'.le); rw [hpx])); all_goals (apply ol_nil))
        | (refine cw_region_id 5 ?_; (apply ol_mv; rfl; rfl); (apply ol_as; rfl; rfl); (apply ol_nil))
        | (refine cw_region_id 6 ?_; (apply ol_val; rfl; apply stp_pur; apply s_add64; rfl; rfl; omega); (apply ol_mv; rfl; rfl); (apply ol_nil))
        | (refine cw_region_id 7 ?_; (apply ol_as; rfl; rfl); (apply ol_nil))
        | (apply cw_cond_true; rfl; exact qA)
        | (apply cw_cond_false; rfl; exact qA)
        | apply cw_skip
        | apply cw_ret
        | apply cw_block
        | apply cw_exit
      refine ends [] (RVal.tmp rfl RVal.nil) Pick.nil ?_
      rw [idxI_first hk' ht hpx]
      rfl
    | false =>
      repeat' first
        | apply cw_seq
        | (refine cw_region_id 2 ?_; (apply ol_val; rfl; apply stp_cmp; apply s_lss; rfl; rfl; all_goals (intro _; try (exfalso; (first | (rename_i hh; exact hh rfl) | omega)))); all_goals (apply ol_nil))
        | (refine cw_region_id 3 ?_; (apply ol_mv; rfl; rfl); (apply ol_as; rfl; rfl); (apply ol_nil))
        | (refine cw_region_id 4 ?_; (apply ol_mv; rfl; rfl); (apply ol_mv; rfl; rfl); (apply ol_mv; rfl; rfl); (apply ol_val; rfl; apply stp_pur; first | (apply s_indexK; rfl; rfl; exact el_23; exact sz_25; (first | rfl | exact s.at_ (by omega)); omega) | (apply s_indexO; rfl; rfl; exact el_23; exact sz_25; (first | rfl | exact s.at_ (by omega)); omega)); (apply ol_ldN; rfl; rfl; rfl; exact sz_25; (first | exact qQ | (apply RdN.view; exact s.cells _ (by omega)))); (apply ol_val; rfl; (apply s_clov (fs := []); rfl; rfl; exact hg; (intro w' hw'; exact hp w' xs[k] (List.getElem_mem _) hw'.le); rw [hpx])); all_goals (apply ol_nil))
        | (refine cw_region_id 5 ?_; (apply ol_mv; rfl; rfl); (apply ol_as; rfl; rfl); (apply ol_nil))
        | (refine cw_region_id 6 ?_; (apply ol_val; rfl; apply stp_pur; apply s_add64; rfl; rfl; omega); (apply ol_mv; rfl; rfl); (apply ol_nil))
        | (refine cw_region_id 7 ?_; (apply ol_as; rfl; rfl); (apply ol_nil))
        | (apply cw_cond_true; rfl; exact qA)
        | (apply cw_cond_false; rfl; exact qA)
        | apply cw_skip
        | apply cw_ret
        | apply cw_block
        | apply cw_exit
      refine ⟨k + 1, ⟨by (repeat (first | exact trivial | refine And.intro rfl ?_)), View.le.refl _, by exact qK, ⟨by omega, ?_⟩, by omega⟩⟩
      rw [List.take_succ_eq_append_getElem hk', List.any_append, ht]
      simp [hpx]
  · have ek : k = xs.length := by omega
    repeat' first
      | apply cw_seq
      | (refine cw_region_id 2 ?_; (apply ol_val; rfl; apply stp_cmp; apply s_lss; rfl; rfl; all_goals (intro _; try (exfalso; (first | (rename_i hh; exact hh rfl) | omega)))); all_goals (apply ol_nil))
      | (refine cw_region_id 3 ?_; (apply ol_mv; rfl; rfl); (apply ol_as; rfl; rfl); (apply ol_nil))
      | (refine cw_region_id 4 ?_; (apply ol_mv; rfl; rfl); (apply ol_mv; rfl; rfl); (apply ol_mv; rfl; rfl); (apply ol_val; rfl; apply stp_pur; first | (apply s_indexK; rfl; rfl; exact el_23; exact sz_25; (first | rfl); omega) | (apply s_indexO; rfl; rfl; exact el_23; exact sz_25; (first | rfl); omega)); (apply ol_ldN; rfl; rfl; rfl; exact sz_25; exact qQ))
      | (refine cw_region_id 5 ?_; (apply ol_mv; rfl; rfl); (apply ol_as; rfl; rfl); (apply ol_nil))
      | (refine cw_region_id 6 ?_; (apply ol_val; rfl; apply stp_pur; apply s_add64; rfl; rfl; omega); (apply ol_mv; rfl; rfl); (apply ol_nil))
      | (refine cw_region_id 7 ?_; (apply ol_as; rfl; rfl); (apply ol_nil))
      | (apply cw_cond_true; rfl; exact qA)
      | (apply cw_cond_false; rfl; exact qA)
      | apply cw_skip
      | apply cw_ret
      | apply cw_block
      | apply cw_exit
    refine ends [] (RVal.tmp rfl RVal.nil) Pick.nil ?_
    rw [ek, List.take_length] at ht
    simp [tup, idxI, ht]
theorem anyIt_spec {dd : Nat} {M : View} {w : World} (hM : View.le M (View.of w)) {f : Nat} {cap : List Value} {p : (It dd) → Bool} (hg : goFunc Tryd.prog f = true) {xs : List (It dd)} (hp : ∀ (w' : World) (x : (It dd)), x ∈ xs → View.le M (View.of w') → FnC Tryd.prog f ([.agg x.enc.toArray] ++ cap) w' (fun v _ => v = .bool (p x)))
    {r : Bool} (hr : xs.any p = r) {n : Nat} (hn : xs.length = n) {a : Option Addr} {b o c : Nat} (s : SlA M It.enc 4 a xs b o) (hl : xs.length ≤ 4611686018427387904) :
    FnC Tryd.prog 20 [.slice a n c, .func (.func f) #[] cap.toArray] w (fun v _ => v = .bool r) := by
  subst hr
  refine enterF (M := M) Tryd.func20 rfl rfl rfl rfl hM ?_
  have hi := idxI_any (p := p) (xs := xs)
  cases hany : xs.any p with
  | true =>
    rw [hany] at hi
    have hi : 0 ≤ idxI p xs := hi.2 rfl
    repeat' first
      | apply cw_seq
      | (refine cw_region_id 0 ?_; (apply ol_as; rfl; rfl); (apply ol_nil))
      | (refine cw_region_id 1 ?_; (apply ol_mv; rfl; rfl); (apply ol_mv; rfl; rfl); (apply ol_val; rfl; apply s_callv; rfl; exact gf_42; (intro w' hw'; exact anyItIdx_spec (View.le.refl (View.of w')) (p := p) hg (fun w'' x hx h => hp w'' x hx (hw'.le.trans h)) rfl hn (s.mono hw'.le) hl)); (apply ol_val; rfl; apply stp_cmp; apply s_geq; rfl; rfl; all_goals (intro _; try (exfalso; (first | (rename_i hh; exact hh rfl) | omega)))); all_goals (apply ol_as; rfl; rfl); all_goals (apply ol_nil))
      | (apply cw_cond_true; rfl; exact qA)
      | (apply cw_cond_false; rfl; exact qA)
      | apply cw_skip
      | apply cw_ret
      | apply cw_block
      | apply cw_exit
    refine ends [] (RVal.tmp rfl RVal.nil) Pick.nil ?_
    rfl
  | false =>
    rw [hany] at hi
    have hi : ¬ 0 ≤ idxI p xs := fun h => by have := hi.1 h; cases this
    repeat' first
      | apply cw_seq
      | (refine cw_region_id 0 ?_; (apply ol_as; rfl; rfl); (apply ol_nil))
      | (refine cw_region_id 1 ?_; (apply ol_mv; rfl; rfl); (apply ol_mv; rfl; rfl); (apply ol_val; rfl; apply s_callv; rfl; exact gf_42; (intro w' hw'; exact anyItIdx_spec (View.le.refl (View.of w')) (p := p) hg (fun w'' x hx h => hp w'' x hx (hw'.le.trans h)) rfl hn (s.mono hw'.le) hl)); (apply ol_val; rfl; apply stp_cmp; apply s_geq; rfl; rfl; all_goals (intro _; try (exfalso; (first | (rename_i hh; exact hh rfl) | omega)))); all_goals (apply ol_as; rfl; rfl); all_goals (apply ol_nil))
      | (apply cw_cond_true; rfl; exact qA)
      | (apply cw_cond_false; rfl; exact qA)
      | apply cw_skip
      | apply cw_ret
      | apply cw_block
      | apply cw_exit
    refine ends [] (RVal.tmp rfl RVal.nil) Pick.nil ?_
    rfl
end Go.Proofs.YtkkfgeekdaalmaaDoor
namespace Go.Proofs.YtkkfgeekdaalmaaDoor
set_option maxRecDepth 20000
set_option linter.unusedSimpArgs false
set_option linter.unusedVariables false
open Go Go.Fw
attribute [local irreducible] CW OL OD FX Stp FnC FnV Ret
set_option maxHeartbeats 800000
theorem within_leaf {M : View} {w : World} (hM : View.le M (View.of w)) {d : Nat} {x : It d} (hv : HdV M x.hd) (h3 : x.hd.k ≠ 3 ∨ d = 0) :
    FnC Tryd.prog 37 [.agg x.enc.toArray, .int .i64 d] w (fun v _ => v = .bool (okH x.hd)) := by
  unfold It.enc
  generalize x.hd = h at *
  obtain ⟨k, n, ⟨xs, Ba, Bb, Bo, Bc⟩, La, Lb, Lo, Lc, m⟩ := h
  dsimp only at hv h3 ⊢
  refine enterF (M := M) Tryd.func37 rfl rfl rfl rfl hM ?_
  by_cases h1 : k = 1
  · rw [okH_1 h1]
    subst h1
    dsimp only
    by_cases hc : xs.length = 0 ∧ m = 0
    · rw [decide_eq_true hc]
      repeat' first
        | apply cw_seq
        | (refine cw_region_id 0 ?_; (apply ol_val; rfl; first | (apply s_boxN; rfl; intro bk2) | (apply s_box1; rfl; rfl; intro bk2)); (apply ol_val; rfl; first | (apply s_boxN; rfl; intro bk3) | (apply s_box1; rfl; rfl; intro bk3)); (apply ol_as; rfl; rfl); (apply ol_nil))
        | (refine cw_region_id 1 ?_; (apply ol_fa; rfl; rfl; exact fd_25_0; exact qZ); (apply ol_ld; rfl; rfl; rfl; exact qP); (apply ol_nil))
        | (refine cw_region_id 2 ?_; (apply ol_val; rfl; apply stp_cmp; apply s_eql; rfl; rfl; all_goals (intro hc8; try (exfalso; (first | exact hc8 rfl | omega)))); all_goals (apply ol_as; rfl; rfl); all_goals (apply ol_nil))
        | (refine cw_region_id 3 ?_; (apply ol_fa; rfl; rfl; exact fd_25_2; exact qZ); (apply ol_ld; rfl; rfl; rfl; exact qP); (apply ol_val; rfl; apply stp_pur; apply s_len; rfl; exact el_22); (apply ol_val; rfl; apply stp_cmp; apply s_eql; rfl; rfl; all_goals (intro hc12; try (exfalso; (first | exact hc12 rfl | omega)))); all_goals (apply ol_mv; rfl; rfl); all_goals (first | (apply ol_gskip; rfl; rfl; exact qA; rfl) | (apply ol_gval; rfl; rfl; rfl; exact qA; apply stp_pur; apply s_fieldAddr'; rfl; exact fd_25_3; exact qZ)); all_goals (first | (apply ol_gskip; rfl; rfl; exact qA; rfl) | (apply ol_gval; rfl; rfl; rfl; exact qA; apply stp_pur; apply s_load1; rfl; rfl; exact qP)); all_goals (first | (apply ol_gskip; rfl; rfl; exact qA; rfl) | (apply ol_gval; rfl; rfl; rfl; exact qA; apply stp_pur; apply s_len; rfl; exact el_23)); all_goals (first | (apply ol_gskip; rfl; rfl; exact qA; rfl) | (apply ol_gval; rfl; rfl; rfl; exact qA; apply stp_cmp; apply s_eql; rfl; rfl; all_goals (intro hc17; try (exfalso; (first | exact hc17 rfl | omega))))); all_goals (apply ol_val; rfl; apply stp_pur; first | (apply s_pick_t; rfl; exact qA; rfl) | (apply s_pick_f; rfl; exact qA; rfl)); all_goals (apply ol_as; rfl; rfl); all_goals (apply ol_nil))
        | (refine cw_region_id 4 ?_; (apply ol_val; rfl; apply stp_cmp; apply s_eql; rfl; rfl; all_goals (intro hc20; try (exfalso; (first | exact hc20 rfl | omega)))); all_goals (apply ol_as; rfl; rfl); all_goals (apply ol_nil))
        | (refine cw_region_id 5 ?_; (apply ol_fa; rfl; rfl; exact fd_25_1; exact qZ); (apply ol_ld; rfl; rfl; rfl; exact qP); (apply ol_val; rfl; apply stp_cmp; apply s_eql; rfl; rfl; all_goals (intro hc23; try (exfalso; (first | exact hc23 rfl | omega)))); all_goals (apply ol_mv; rfl; rfl); all_goals (first | (apply ol_gskip; rfl; rfl; exact qA; rfl) | (apply ol_gval; rfl; rfl; rfl; exact qA; apply stp_pur; apply s_fieldAddr'; rfl; exact fd_25_3; exact qZ)); all_goals (first | (apply ol_gskip; rfl; rfl; exact qA; rfl) | (apply ol_gval; rfl; rfl; rfl; exact qA; apply stp_pur; apply s_load1; rfl; rfl; exact qP)); all_goals (first | (apply ol_gskip; rfl; rfl; exact qA; rfl) | (apply ol_gval; rfl; rfl; rfl; exact qA; apply stp_pur; apply s_len; rfl; exact el_23)); all_goals (first | (apply ol_gskip; rfl; rfl; exact qA; rfl) | (apply ol_gval; rfl; rfl; rfl; exact qA; apply stp_cmp; apply s_eql; rfl; rfl; all_goals (intro hc28; try (exfalso; (first | exact hc28 rfl | omega))))); all_goals (apply ol_val; rfl; apply stp_pur; first | (apply s_pick_t; rfl; exact qA; rfl) | (apply s_pick_f; rfl; exact qA; rfl)); all_goals (apply ol_as; rfl; rfl); all_goals (apply ol_nil))
        | (refine cw_region_id 6 ?_; (apply ol_val; rfl; apply stp_cmp; apply s_eql; rfl; rfl; all_goals (intro hc31; try (exfalso; (first | exact hc31 rfl | omega)))); all_goals (apply ol_as; rfl; rfl); all_goals (apply ol_nil))
        | (refine cw_region_id 7 ?_; (apply ol_fa; rfl; rfl; exact fd_25_1; exact qZ); (apply ol_ld; rfl; rfl; rfl; exact qP); (apply ol_val; rfl; apply stp_cmp; apply s_eql; rfl; rfl; all_goals (intro hc34; try (exfalso; (first | exact hc34 rfl | omega)))); all_goals (apply ol_mv; rfl; rfl); all_goals (first | (apply ol_gskip; rfl; rfl; exact qA; rfl) | (apply ol_gval; rfl; rfl; rfl; exact qA; apply stp_pur; apply s_fieldAddr'; rfl; exact fd_25_2; exact qZ)); all_goals (first | (apply ol_gskip; rfl; rfl; exact qA; rfl) | (apply ol_gval; rfl; rfl; rfl; exact qA; apply stp_pur; apply s_load1; rfl; rfl; exact qP)); all_goals (first | (apply ol_gskip; rfl; rfl; exact qA; rfl) | (apply ol_gval; rfl; rfl; rfl; exact qA; apply stp_pur; apply s_len; rfl; exact el_22)); all_goals (first | (apply ol_gskip; rfl; rfl; exact qA; rfl) | (apply ol_gval; rfl; rfl; rfl; exact qA; apply stp_cmp; apply s_eql; rfl; rfl; all_goals (intro hc39; try (exfalso; (first | exact hc39 rfl | omega))))); all_goals (apply ol_val; rfl; apply stp_pur; first | (apply s_pick_t; rfl; exact qA; rfl) | (apply s_pick_f; rfl; exact qA; rfl)); all_goals (apply ol_mv; rfl; rfl); all_goals (first | (apply ol_gskip; rfl; rfl; exact qA; rfl) | (apply ol_gval; rfl; rfl; rfl; exact qA; apply stp_pur; apply s_load1; rfl; rfl; exact qP)); all_goals (first | (apply ol_gskip; rfl; rfl; exact qA; rfl) | (apply ol_gval; rfl; rfl; rfl; exact qA; apply stp_cmp; apply s_gtr; rfl; rfl; all_goals (intro hc43; try (exfalso; (first | exact hc43 rfl | omega))))); all_goals (apply ol_val; rfl; apply stp_pur; first | (apply s_pick_t; rfl; exact qA; rfl) | (apply s_pick_f; rfl; exact qA; rfl)); all_goals (apply ol_mv; rfl; rfl); all_goals (first | (apply ol_gskip; rfl; rfl; exact qA; rfl) | (apply ol_gval; rfl; rfl; rfl; exact qA; apply stp_pur; apply s_fieldAddr'; rfl; exact fd_25_3; exact qZ)); all_goals (first | (apply ol_gskip; rfl; rfl; exact qA; rfl) | (apply ol_gval; rfl; rfl; rfl; exact qA; apply stp_pur; apply s_load1; rfl; rfl; exact qP)); all_goals (first | (apply ol_gskip; rfl; rfl; exact qA; rfl) | (apply ol_gval; rfl; rfl; rfl; exact qA; apply stp_pur; apply s_len; rfl; exact el_23)); all_goals (first | (apply ol_gskip; rfl; rfl; exact qA; rfl) | (apply ol_gval; rfl; rfl; rfl; exact qA; apply stp_cmp; apply s_leq; rfl; rfl; all_goals (intro hc49; try (exfalso; (first | exact hc49 rfl | omega))))); all_goals (apply ol_val; rfl; apply stp_pur; first | (apply s_pick_t; rfl; exact qA; rfl) | (apply s_pick_f; rfl; exact qA; rfl)); all_goals (apply ol_mv; rfl; rfl); all_goals (first | (apply ol_gskip; rfl; rfl; exact qA; rfl) | (apply ol_gval; rfl; rfl; rfl; exact qA; apply stp_pur; apply s_fieldAddr'; rfl; exact fd_25_3; exact qZ)); all_goals (first | (apply ol_gskip; rfl; rfl; exact qA; rfl) | (apply ol_gval; rfl; rfl; rfl; exact qA; apply stp_pur; apply s_load1; rfl; rfl; exact qP)); all_goals (first | (apply ol_gskip; rfl; rfl; exact qA; rfl) | (apply ol_gval; rfl; rfl; rfl; exact qA; apply stp_pur; apply s_makeFunc; rfl; rfl)); all_goals (apply ol_gskip; rfl; rfl; exact qA; rfl); all_goals (first | (apply ol_gskip; rfl; rfl; exact qA; rfl) | (apply ol_gval; rfl; rfl; rfl; exact qA; apply stp_pur; first | (apply s_not_t; rfl; exact qA) | (apply s_not_f; rfl; exact qA) | (apply s_not; rfl))); all_goals (apply ol_val; rfl; apply stp_pur; first | (apply s_pick_t; rfl; exact qA; rfl) | (apply s_pick_f; rfl; exact qA; rfl)); all_goals (apply ol_as; rfl; rfl); all_goals (apply ol_nil))
        | (refine cw_region_id 8 ?_; (apply ol_as; rfl; rfl); (apply ol_nil))
        | (apply cw_cond_true; rfl; exact qA)
        | (apply cw_cond_false; rfl; exact qA)
        | apply cw_skip
        | apply cw_ret
        | apply cw_block
        | apply cw_exit
      all_goals (refine ends [] (RVal.tmp rfl RVal.nil) Pick.nil ?_; rfl)
    · rw [decide_eq_false hc]
      repeat' first
        | apply cw_seq
        | (refine cw_region_id 0 ?_; (apply ol_val; rfl; first | (apply s_boxN; rfl; intro bk2) | (apply s_box1; rfl; rfl; intro bk2)); (apply ol_val; rfl; first | (apply s_boxN; rfl; intro bk3) | (apply s_box1; rfl; rfl; intro bk3)); (apply ol_as; rfl; rfl); (apply ol_nil))
        | (refine cw_region_id 1 ?_; (apply ol_fa; rfl; rfl; exact fd_25_0; exact qZ); (apply ol_ld; rfl; rfl; rfl; exact qP); (apply ol_nil))
        | (refine cw_region_id 2 ?_; (apply ol_val; rfl; apply stp_cmp; apply s_eql; rfl; rfl; all_goals (intro hc8; try (exfalso; (first | exact hc8 rfl | omega)))); all_goals (apply ol_as; rfl; rfl); all_goals (apply ol_nil))
        | (refine cw_region_id 3 ?_; (apply ol_fa; rfl; rfl; exact fd_25_2; exact qZ); (apply ol_ld; rfl; rfl; rfl; exact qP); (apply ol_val; rfl; apply stp_pur; apply s_len; rfl; exact el_22); (apply ol_val; rfl; apply stp_cmp; apply s_eql; rfl; rfl; all_goals (intro hc12; try (exfalso; (first | exact hc12 rfl | omega)))); all_goals (apply ol_mv; rfl; rfl); all_goals (first | (apply ol_gskip; rfl; rfl; exact qA; rfl) | (apply ol_gval; rfl; rfl; rfl; exact qA; apply stp_pur; apply s_fieldAddr'; rfl; exact fd_25_3; exact qZ)); all_goals (first | (apply ol_gskip; rfl; rfl; exact qA; rfl) | (apply ol_gval; rfl; rfl; rfl; exact qA; apply stp_pur; apply s_load1; rfl; rfl; exact qP)); all_goals (first | (apply ol_gskip; rfl; rfl; exact qA; rfl) | (apply ol_gval; rfl; rfl; rfl; exact qA; apply stp_pur; apply s_len; rfl; exact el_23)); all_goals (first | (apply ol_gskip; rfl; rfl; exact qA; rfl) | (apply ol_gval; rfl; rfl; rfl; exact qA; apply stp_cmp; apply s_eql; rfl; rfl; all_goals (intro hc17; try (exfalso; (first | exact hc17 rfl | omega))))); all_goals (apply ol_val; rfl; apply stp_pur; first | (apply s_pick_t; rfl; exact qA; rfl) | (apply s_pick_f; rfl; exact qA; rfl)); all_goals (apply ol_as; rfl; rfl); all_goals (apply ol_nil))
        | (refine cw_region_id 4 ?_; (apply ol_val; rfl; apply stp_cmp; apply s_eql; rfl; rfl; all_goals (intro hc20; try (exfalso; (first | exact hc20 rfl | omega)))); all_goals (apply ol_as; rfl; rfl); all_goals (apply ol_nil))
        | (refine cw_region_id 5 ?_; (apply ol_fa; rfl; rfl; exact fd_25_1; exact qZ); (apply ol_ld; rfl; rfl; rfl; exact qP); (apply ol_val; rfl; apply stp_cmp; apply s_eql; rfl; rfl; all_goals (intro hc23; try (exfalso; (first | exact hc23 rfl | omega)))); all_goals (apply ol_mv; rfl; rfl); all_goals (first | (apply ol_gskip; rfl; rfl; exact qA; rfl) | (apply ol_gval; rfl; rfl; rfl; exact qA; apply stp_pur; apply s_fieldAddr'; rfl; exact fd_25_3; exact qZ)); all_goals (first | (apply ol_gskip; rfl; rfl; exact qA; rfl) | (apply ol_gval; rfl; rfl; rfl; exact qA; apply stp_pur; apply s_load1; rfl; rfl; exact qP)); all_goals (first | (apply ol_gskip; rfl; rfl; exact qA; rfl) | (apply ol_gval; rfl; rfl; rfl; exact qA; apply stp_pur; apply s_len; rfl; exact el_23)); all_goals (first | (apply ol_gskip; rfl; rfl; exact qA; rfl) | (apply ol_gval; rfl; rfl; rfl; exact qA; apply stp_cmp; apply s_eql; rfl; rfl; all_goals (intro hc28; try (exfalso; (first | exact hc28 rfl | omega))))); all_goals (apply ol_val; rfl; apply stp_pur; first | (apply s_pick_t; rfl; exact qA; rfl) | (apply s_pick_f; rfl; exact qA; rfl)); all_goals (apply ol_as; rfl; rfl); all_goals (apply ol_nil))
        | (refine cw_region_id 6 ?_; (apply ol_val; rfl; apply stp_cmp; apply s_eql; rfl; rfl; all_goals (intro hc31; try (exfalso; (first | exact hc31 rfl | omega)))); all_goals (apply ol_as; rfl; rfl); all_goals (apply ol_nil))
        | (refine cw_region_id 7 ?_; (apply ol_fa; rfl; rfl; exact fd_25_1; exact qZ); (apply ol_ld; rfl; rfl; rfl; exact qP); (apply ol_val; rfl; apply stp_cmp; apply s_eql; rfl; rfl; all_goals (intro hc34; try (exfalso; (first | exact hc34 rfl | omega)))); all_goals (apply ol_mv; rfl; rfl); all_goals (first | (apply ol_gskip; rfl; rfl; exact qA; rfl) | (apply ol_gval; rfl; rfl; rfl; exact qA; apply stp_pur; apply s_fieldAddr'; rfl; exact fd_25_2; exact qZ)); all_goals (first | (apply ol_gskip; rfl; rfl; exact qA; rfl) | (apply ol_gval; rfl; rfl; rfl; exact qA; apply stp_pur; apply s_load1; rfl; rfl; exact qP)); all_goals (first | (apply ol_gskip; rfl; rfl; exact qA; rfl) | (apply ol_gval; rfl; rfl; rfl; exact qA; apply stp_pur; apply s_len; rfl; exact el_22)); all_goals (first | (apply ol_gskip; rfl; rfl; exact qA; rfl) | (apply ol_gval; rfl; rfl; rfl; exact qA; apply stp_cmp; apply s_eql; rfl; rfl; all_goals (intro hc39; try (exfalso; (first | exact hc39 rfl | omega))))); all_goals (apply ol_val; rfl; apply stp_pur; first | (apply s_pick_t; rfl; exact qA; rfl) | (apply s_pick_f; rfl; exact qA; rfl)); all_goals (apply ol_mv; rfl; rfl); all_goals (first | (apply ol_gskip; rfl; rfl; exact qA; rfl) | (apply ol_gval; rfl; rfl; rfl; exact qA; apply stp_pur; apply s_load1; rfl; rfl; exact qP)); all_goals (first | (apply ol_gskip; rfl; rfl; exact qA; rfl) | (apply ol_gval; rfl; rfl; rfl; exact qA; apply stp_cmp; apply s_gtr; rfl; rfl; all_goals (intro hc43; try (exfalso; (first | exact hc43 rfl | omega))))); all_goals (apply ol_val; rfl; apply stp_pur; first | (apply s_pick_t; rfl; exact qA; rfl) | (apply s_pick_f; rfl; exact qA; rfl)); all_goals (apply ol_mv; rfl; rfl); all_goals (first | (apply ol_gskip; rfl; rfl; exact qA; rfl) | (apply ol_gval; rfl; rfl; rfl; exact qA; apply stp_pur; apply s_fieldAddr'; rfl; exact fd_25_3; exact qZ)); all_goals (first | (apply ol_gskip; rfl; rfl; exact qA; rfl) | (apply ol_gval; rfl; rfl; rfl; exact qA; apply stp_pur; apply s_load1; rfl; rfl; exact qP)); all_goals (first | (apply ol_gskip; rfl; rfl; exact qA; rfl) | (apply ol_gval; rfl; rfl; rfl; exact qA; apply stp_pur; apply s_len; rfl; exact el_23)); all_goals (first | (apply ol_gskip; rfl; rfl; exact qA; rfl) | (apply ol_gval; rfl; rfl; rfl; exact qA; apply stp_cmp; apply s_leq; rfl; rfl; all_goals (intro hc49; try (exfalso; (first | exact hc49 rfl | omega))))); all_goals (apply ol_val; rfl; apply stp_pur; first | (apply s_pick_t; rfl; exact qA; rfl) | (apply s_pick_f; rfl; exact qA; rfl)); all_goals (apply ol_mv; rfl; rfl); all_goals (first | (apply ol_gskip; rfl; rfl; exact qA; rfl) | (apply ol_gval; rfl; rfl; rfl; exact qA; apply stp_pur; apply s_fieldAddr'; rfl; exact fd_25_3; exact qZ)); all_goals (first | (apply ol_gskip; rfl; rfl; exact qA; rfl) | (apply ol_gval; rfl; rfl; rfl; exact qA; apply stp_pur; apply s_load1; rfl; rfl; exact qP)); all_goals (first | (apply ol_gskip; rfl; rfl; exact qA; rfl) | (apply ol_gval; rfl; rfl; rfl; exact qA; apply stp_pur; apply s_makeFunc; rfl; rfl)); all_goals (apply ol_gskip; rfl; rfl; exact qA; rfl); all_goals (first | (apply ol_gskip; rfl; rfl; exact qA; rfl) | (apply ol_gval; rfl; rfl; rfl; exact qA; apply stp_pur; first | (apply s_not_t; rfl; exact qA) | (apply s_not_f; rfl; exact qA) | (apply s_not; rfl))); all_goals (apply ol_val; rfl; apply stp_pur; first | (apply s_pick_t; rfl; exact qA; rfl) | (apply s_pick_f; rfl; exact qA; rfl)); all_goals (apply ol_as; rfl; rfl); all_goals (apply ol_nil))
        | (refine cw_region_id 8 ?_; (apply ol_as; rfl; rfl); (apply ol_nil))
        | (apply cw_cond_true; rfl; exact qA)
        | (apply cw_cond_false; rfl; exact qA)
        | apply cw_skip
        | apply cw_ret
        | apply cw_block
        | apply cw_exit
      all_goals (refine ends [] (RVal.tmp rfl RVal.nil) Pick.nil ?_; rfl)
  · by_cases h2 : k = 2
    · rw [okH_2 h2]
      subst h2
      dsimp only
      by_cases hc : n = 0 ∧ m = 0
      · rw [decide_eq_true hc]
        repeat' first
          | apply cw_seq
          | (refine cw_region_id 0 ?_; (apply ol_val; rfl; first | (apply s_boxN; rfl; intro bk2) | (apply s_box1; rfl; rfl; intro bk2)); (apply ol_val; rfl; first | (apply s_boxN; rfl; intro bk3) | (apply s_box1; rfl; rfl; intro bk3)); (apply ol_as; rfl; rfl); (apply ol_nil))
          | (refine cw_region_id 1 ?_; (apply ol_fa; rfl; rfl; exact fd_25_0; exact qZ); (apply ol_ld; rfl; rfl; rfl; exact qP); (apply ol_nil))
          | (refine cw_region_id 2 ?_; (apply ol_val; rfl; apply stp_cmp; apply s_eql; rfl; rfl; all_goals (intro hc8; try (exfalso; (first | exact hc8 rfl | omega)))); all_goals (apply ol_as; rfl; rfl); all_goals (apply ol_nil))
          | (refine cw_region_id 3 ?_; (apply ol_fa; rfl; rfl; exact fd_25_2; exact qZ); (apply ol_ld; rfl; rfl; rfl; exact qP); (apply ol_val; rfl; apply stp_pur; apply s_len; rfl; exact el_22); (apply ol_val; rfl; apply stp_cmp; apply s_eql; rfl; rfl; all_goals (intro hc12; try (exfalso; (first | exact hc12 rfl | omega)))); all_goals (apply ol_mv; rfl; rfl); all_goals (first | (apply ol_gskip; rfl; rfl; exact qA; rfl) | (apply ol_gval; rfl; rfl; rfl; exact qA; apply stp_pur; apply s_fieldAddr'; rfl; exact fd_25_3; exact qZ)); all_goals (first | (apply ol_gskip; rfl; rfl; exact qA; rfl) | (apply ol_gval; rfl; rfl; rfl; exact qA; apply stp_pur; apply s_load1; rfl; rfl; exact qP)); all_goals (first | (apply ol_gskip; rfl; rfl; exact qA; rfl) | (apply ol_gval; rfl; rfl; rfl; exact qA; apply stp_pur; apply s_len; rfl; exact el_23)); all_goals (first | (apply ol_gskip; rfl; rfl; exact qA; rfl) | (apply ol_gval; rfl; rfl; rfl; exact qA; apply stp_cmp; apply s_eql; rfl; rfl; all_goals (intro hc17; try (exfalso; (first | exact hc17 rfl | omega))))); all_goals (apply ol_val; rfl; apply stp_pur; first | (apply s_pick_t; rfl; exact qA; rfl) | (apply s_pick_f; rfl; exact qA; rfl)); all_goals (apply ol_as; rfl; rfl); all_goals (apply ol_nil))
          | (refine cw_region_id 4 ?_; (apply ol_val; rfl; apply stp_cmp; apply s_eql; rfl; rfl; all_goals (intro hc20; try (exfalso; (first | exact hc20 rfl | omega)))); all_goals (apply ol_as; rfl; rfl); all_goals (apply ol_nil))
          | (refine cw_region_id 5 ?_; (apply ol_fa; rfl; rfl; exact fd_25_1; exact qZ); (apply ol_ld; rfl; rfl; rfl; exact qP); (apply ol_val; rfl; apply stp_cmp; apply s_eql; rfl; rfl; all_goals (intro hc23; try (exfalso; (first | exact hc23 rfl | omega)))); all_goals (apply ol_mv; rfl; rfl); all_goals (first | (apply ol_gskip; rfl; rfl; exact qA; rfl) | (apply ol_gval; rfl; rfl; rfl; exact qA; apply stp_pur; apply s_fieldAddr'; rfl; exact fd_25_3; exact qZ)); all_goals (first | (apply ol_gskip; rfl; rfl; exact qA; rfl) | (apply ol_gval; rfl; rfl; rfl; exact qA; apply stp_pur; apply s_load1; rfl; rfl; exact qP)); all_goals (first | (apply ol_gskip; rfl; rfl; exact qA; rfl) | (apply ol_gval; rfl; rfl; rfl; exact qA; apply stp_pur; apply s_len; rfl; exact el_23)); all_goals (first | (apply ol_gskip; rfl; rfl; exact qA; rfl) | (apply ol_gval; rfl; rfl; rfl; exact qA; apply stp_cmp; apply s_eql; rfl; rfl; all_goals (intro hc28; try (exfalso; (first | exact hc28 rfl | omega))))); all_goals (apply ol_val; rfl; apply stp_pur; first | (apply s_pick_t; rfl; exact qA; rfl) | (apply s_pick_f; rfl; exact qA; rfl)); all_goals (apply ol_as; rfl; rfl); all_goals (apply ol_nil))
          | (refine cw_region_id 6 ?_; (apply ol_val; rfl; apply stp_cmp; apply s_eql; rfl; rfl; all_goals (intro hc31; try (exfalso; (first | exact hc31 rfl | omega)))); all_goals (apply ol_as; rfl; rfl); all_goals (apply ol_nil))
          | (refine cw_region_id 7 ?_; (apply ol_fa; rfl; rfl; exact fd_25_1; exact qZ); (apply ol_ld; rfl; rfl; rfl; exact qP); (apply ol_val; rfl; apply stp_cmp; apply s_eql; rfl; rfl; all_goals (intro hc34; try (exfalso; (first | exact hc34 rfl | omega)))); all_goals (apply ol_mv; rfl; rfl); all_goals (first | (apply ol_gskip; rfl; rfl; exact qA; rfl) | (apply ol_gval; rfl; rfl; rfl; exact qA; apply stp_pur; apply s_fieldAddr'; rfl; exact fd_25_2; exact qZ)); all_goals (first | (apply ol_gskip; rfl; rfl; exact qA; rfl) | (apply ol_gval; rfl; rfl; rfl; exact qA; apply stp_pur; apply s_load1; rfl; rfl; exact qP)); all_goals (first | (apply ol_gskip; rfl; rfl; exact qA; rfl) | (apply ol_gval; rfl; rfl; rfl; exact qA; apply stp_pur; apply s_len; rfl; exact el_22)); all_goals (first | (apply ol_gskip; rfl; rfl; exact qA; rfl) | (apply ol_gval; rfl; rfl; rfl; exact qA; apply stp_cmp; apply s_eql; rfl; rfl; all_goals (intro hc39; try (exfalso; (first | exact hc39 rfl | omega))))); all_goals (apply ol_val; rfl; apply stp_pur; first | (apply s_pick_t; rfl; exact qA; rfl) | (apply s_pick_f; rfl; exact qA; rfl)); all_goals (apply ol_mv; rfl; rfl); all_goals (first | (apply ol_gskip; rfl; rfl; exact qA; rfl) | (apply ol_gval; rfl; rfl; rfl; exact qA; apply stp_pur; apply s_load1; rfl; rfl; exact qP)); all_goals (first | (apply ol_gskip; rfl; rfl; exact qA; rfl) | (apply ol_gval; rfl; rfl; rfl; exact qA; apply stp_cmp; apply s_gtr; rfl; rfl; all_goals (intro hc43; try (exfalso; (first | exact hc43 rfl | omega))))); all_goals (apply ol_val; rfl; apply stp_pur; first | (apply s_pick_t; rfl; exact qA; rfl) | (apply s_pick_f; rfl; exact qA; rfl)); all_goals (apply ol_mv; rfl; rfl); all_goals (first | (apply ol_gskip; rfl; rfl; exact qA; rfl) | (apply ol_gval; rfl; rfl; rfl; exact qA; apply stp_pur; apply s_fieldAddr'; rfl; exact fd_25_3; exact qZ)); all_goals (first | (apply ol_gskip; rfl; rfl; exact qA; rfl) | (apply ol_gval; rfl; rfl; rfl; exact qA; apply stp_pur; apply s_load1; rfl; rfl; exact qP)); all_goals (first | (apply ol_gskip; rfl; rfl; exact qA; rfl) | (apply ol_gval; rfl; rfl; rfl; exact qA; apply stp_pur; apply s_len; rfl; exact el_23)); all_goals (first | (apply ol_gskip; rfl; rfl; exact qA; rfl) | (apply ol_gval; rfl; rfl; rfl; exact qA; apply stp_cmp; apply s_leq; rfl; rfl; all_goals (intro hc49; try (exfalso; (first | exact hc49 rfl | omega))))); all_goals (apply ol_val; rfl; apply stp_pur; first | (apply s_pick_t; rfl; exact qA; rfl) | (apply s_pick_f; rfl; exact qA; rfl)); all_goals (apply ol_mv; rfl; rfl); all_goals (first | (apply ol_gskip; rfl; rfl; exact qA; rfl) | (apply ol_gval; rfl; rfl; rfl; exact qA; apply stp_pur; apply s_fieldAddr'; rfl; exact fd_25_3; exact qZ)); all_goals (first | (apply ol_gskip; rfl; rfl; exact qA; rfl) | (apply ol_gval; rfl; rfl; rfl; exact qA; apply stp_pur; apply s_load1; rfl; rfl; exact qP)); all_goals (first | (apply ol_gskip; rfl; rfl; exact qA; rfl) | (apply ol_gval; rfl; rfl; rfl; exact qA; apply stp_pur; apply s_makeFunc; rfl; rfl)); all_goals (apply ol_gskip; rfl; rfl; exact qA; rfl); all_goals (first | (apply ol_gskip; rfl; rfl; exact qA; rfl) | (apply ol_gval; rfl; rfl; rfl; exact qA; apply stp_pur; first | (apply s_not_t; rfl; exact qA) | (apply s_not_f; rfl; exact qA) | (apply s_not; rfl))); all_goals (apply ol_val; rfl; apply stp_pur; first | (apply s_pick_t; rfl; exact qA; rfl) | (apply s_pick_f; rfl; exact qA; rfl)); all_goals (apply ol_as; rfl; rfl); all_goals (apply ol_nil))
          | (refine cw_region_id 8 ?_; (apply ol_as; rfl; rfl); (apply ol_nil))
          | (apply cw_cond_true; rfl; exact qA)
          | (apply cw_cond_false; rfl; exact qA)
          | apply cw_skip
          | apply cw_ret
          | apply cw_block
          | apply cw_exit
        all_goals (refine ends [] (RVal.tmp rfl RVal.nil) Pick.nil ?_; rfl)
      · rw [decide_eq_false hc]
        repeat' first
          | apply cw_seq
          | (refine cw_region_id 0 ?_; (apply ol_val; rfl; first | (apply s_boxN; rfl; intro bk2) | (apply s_box1; rfl; rfl; intro bk2)); (apply ol_val; rfl; first | (apply s_boxN; rfl; intro bk3) | (apply s_box1; rfl; rfl; intro bk3)); (apply ol_as; rfl; rfl); (apply ol_nil))
          | (refine cw_region_id 1 ?_; (apply ol_fa; rfl; rfl; exact fd_25_0; exact qZ); (apply ol_ld; rfl; rfl; rfl; exact qP); (apply ol_nil))
          | (refine cw_region_id 2 ?_; (apply ol_val; rfl; apply stp_cmp; apply s_eql; rfl; rfl; all_goals (intro hc8; try (exfalso; (first | exact hc8 rfl | omega)))); all_goals (apply ol_as; rfl; rfl); all_goals (apply ol_nil))
          | (refine cw_region_id 3 ?_; (apply ol_fa; rfl; rfl; exact fd_25_2; exact qZ); (apply ol_ld; rfl; rfl; rfl; exact qP); (apply ol_val; rfl; apply stp_pur; apply s_len; rfl; exact el_22); (apply ol_val; rfl; apply stp_cmp; apply s_eql; rfl; rfl; all_goals (intro hc12; try (exfalso; (first | exact hc12 rfl | omega)))); all_goals (apply ol_mv; rfl; rfl); all_goals (first | (apply ol_gskip; rfl; rfl; exact qA; rfl) | (apply ol_gval; rfl; rfl; rfl; exact qA; apply stp_pur; apply s_fieldAddr'; rfl; exact fd_25_3; exact qZ)); all_goals (first | (apply ol_gskip; rfl; rfl; exact qA; rfl) | (apply ol_gval; rfl; rfl; rfl; exact qA; apply stp_pur; apply s_load1; rfl; rfl; exact qP)); all_goals (first | (apply ol_gskip; rfl; rfl; exact qA; rfl) | (apply ol_gval; rfl; rfl; rfl; exact qA; apply stp_pur; apply s_len; rfl; exact el_23)); all_goals (first | (apply ol_gskip; rfl; rfl; exact qA; rfl) | (apply ol_gval; rfl; rfl; rfl; exact qA; apply stp_cmp; apply s_eql; rfl; rfl; all_goals (intro hc17; try (exfalso; (first | exact hc17 rfl | omega))))); all_goals (apply ol_val; rfl; apply stp_pur; first | (apply s_pick_t; rfl; exact qA; rfl) | (apply s_pick_f; rfl; exact qA; rfl)); all_goals (apply ol_as; rfl; rfl); all_goals (apply ol_nil))
          | (refine cw_region_id 4 ?_; (apply ol_val; rfl; apply stp_cmp; apply s_eql; rfl; rfl; all_goals (intro hc20; try (exfalso; (first | exact hc20 rfl | omega)))); all_goals (apply ol_as; rfl; rfl); all_goals (apply ol_nil))
          | (refine cw_region_id 5 ?_; (apply ol_fa; rfl; rfl; exact fd_25_1; exact qZ); (apply ol_ld; rfl; rfl; rfl; exact qP); (apply ol_val; rfl; apply stp_cmp; apply s_eql; rfl; rfl; all_goals (intro hc23; try (exfalso; (first | exact hc23 rfl | omega)))); all_goals (apply ol_mv; rfl; rfl); all_goals (first | (apply ol_gskip; rfl; rfl; exact qA; rfl) | (apply ol_gval; rfl; rfl; rfl; exact qA; apply stp_pur; apply s_fieldAddr'; rfl; exact fd_25_3; exact qZ)); all_goals (first | (apply ol_gskip; rfl; rfl; exact qA; rfl) | (apply ol_gval; rfl; rfl; rfl; exact qA; apply stp_pur; apply s_load1; rfl; rfl; exact qP)); all_goals (first | (apply ol_gskip; rfl; rfl; exact qA; rfl) | (apply ol_gval; rfl; rfl; rfl; exact qA; apply stp_pur; apply s_len; rfl; exact el_23)); all_goals (first | (apply ol_gskip; rfl; rfl; exact qA; rfl) | (apply ol_gval; rfl; rfl; rfl; exact qA; apply stp_cmp; apply s_eql; rfl; rfl; all_goals (intro hc28; try (exfalso; (first | exact hc28 rfl | omega))))); all_goals (apply ol_val; rfl; apply stp_pur; first | (apply s_pick_t; rfl; exact qA; rfl) | (apply s_pick_f; rfl; exact qA; rfl)); all_goals (apply ol_as; rfl; rfl); all_goals (apply ol_nil))
          | (refine cw_region_id 6 ?_; (apply ol_val; rfl; apply stp_cmp; apply s_eql; rfl; rfl; all_goals (intro hc31; try (exfalso; (first | exact hc31 rfl | omega)))); all_goals (apply ol_as; rfl; rfl); all_goals (apply ol_nil))
          | (refine cw_region_id 7 ?_; (apply ol_fa; rfl; rfl; exact fd_25_1; exact qZ); (apply ol_ld; rfl; rfl; rfl; exact qP); (apply ol_val; rfl; apply stp_cmp; apply s_eql; rfl; rfl; all_goals (intro hc34; try (exfalso; (first | exact hc34 rfl | omega)))); all_goals (apply ol_mv; rfl; rfl); all_goals (first | (apply ol_gskip; rfl; rfl; exact qA; rfl) | (apply ol_gval; rfl; rfl; rfl; exact qA; apply stp_pur; apply s_fieldAddr'; rfl; exact fd_25_2; exact qZ)); all_goals (first | (apply ol_gskip; rfl; rfl; exact qA; rfl) | (apply ol_gval; rfl; rfl; rfl; exact qA; apply stp_pur; apply s_load1; rfl; rfl; exact qP)); all_goals (first | (apply ol_gskip; rfl; rfl; exact qA; rfl) | (apply ol_gval; rfl; rfl; rfl; exact qA; apply stp_pur; apply s_len; rfl; exact el_22)); all_goals (first | (apply ol_gskip; rfl; rfl; exact qA; rfl) | (apply ol_gval; rfl; rfl; rfl; exact qA; apply stp_cmp; apply s_eql; rfl; rfl; all_goals (intro hc39; try (exfalso; (first | exact hc39 rfl | omega))))); all_goals (apply ol_val; rfl; apply stp_pur; first | (apply s_pick_t; rfl; exact qA; rfl) | (apply s_pick_f; rfl; exact qA; rfl)); all_goals (apply ol_mv; rfl; rfl); all_goals (first | (apply ol_gskip; rfl; rfl; exact qA; rfl) | (apply ol_gval; rfl; rfl; rfl; exact qA; apply stp_pur; apply s_load1; rfl; rfl; exact qP)); all_goals (first | (apply ol_gskip; rfl; rfl; exact qA; rfl) | (apply ol_gval; rfl; rfl; rfl; exact qA; apply stp_cmp; apply s_gtr; rfl; rfl; all_goals (intro hc43; try (exfalso; (first | exact hc43 rfl | omega))))); all_goals (apply ol_val; rfl; apply stp_pur; first | (apply s_pick_t; rfl; exact qA; rfl) | (apply s_pick_f; rfl; exact qA; rfl)); all_goals (apply ol_mv; rfl; rfl); all_goals (first | (apply ol_gskip; rfl; rfl; exact qA; rfl) | (apply ol_gval; rfl; rfl; rfl; exact qA; apply stp_pur; apply s_fieldAddr'; rfl; exact fd_25_3; exact qZ)); all_goals (first | (apply ol_gskip; rfl; rfl; exact qA; rfl) | (apply ol_gval; rfl; rfl; rfl; exact qA; apply stp_pur; apply s_load1; rfl; rfl; exact qP)); all_goals (first | (apply ol_gskip; rfl; rfl; exact qA; rfl) | (apply ol_gval; rfl; rfl; rfl; exact qA; apply stp_pur; apply s_len; rfl; exact el_23)); all_goals (first | (apply ol_gskip; rfl; rfl; exact qA; rfl) | (apply ol_gval; rfl; rfl; rfl; exact qA; apply stp_cmp; apply s_leq; rfl; rfl; all_goals (intro hc49; try (exfalso; (first | exact hc49 rfl | omega))))); all_goals (apply ol_val; rfl; apply stp_pur; first | (apply s_pick_t; rfl; exact qA; rfl) | (apply s_pick_f; rfl; exact qA; rfl)); all_goals (apply ol_mv; rfl; rfl); all_goals (first | (apply ol_gskip; rfl; rfl; exact qA; rfl) | (apply ol_gval; rfl; rfl; rfl; exact qA; apply stp_pur; apply s_fieldAddr'; rfl; exact fd_25_3; exact qZ)); all_goals (first | (apply ol_gskip; rfl; rfl; exact qA; rfl) | (apply ol_gval; rfl; rfl; rfl; exact qA; apply stp_pur; apply s_load1; rfl; rfl; exact qP)); all_goals (first | (apply ol_gskip; rfl; rfl; exact qA; rfl) | (apply ol_gval; rfl; rfl; rfl; exact qA; apply stp_pur; apply s_makeFunc; rfl; rfl)); all_goals (apply ol_gskip; rfl; rfl; exact qA; rfl); all_goals (first | (apply ol_gskip; rfl; rfl; exact qA; rfl) | (apply ol_gval; rfl; rfl; rfl; exact qA; apply stp_pur; first | (apply s_not_t; rfl; exact qA) | (apply s_not_f; rfl; exact qA) | (apply s_not; rfl))); all_goals (apply ol_val; rfl; apply stp_pur; first | (apply s_pick_t; rfl; exact qA; rfl) | (apply s_pick_f; rfl; exact qA; rfl)); all_goals (apply ol_as; rfl; rfl); all_goals (apply ol_nil))
          | (refine cw_region_id 8 ?_; (apply ol_as; rfl; rfl); (apply ol_nil))
          | (apply cw_cond_true; rfl; exact qA)
          | (apply cw_cond_false; rfl; exact qA)
          | apply cw_skip
          | apply cw_ret
          | apply cw_block
          | apply cw_exit
        all_goals (refine ends [] (RVal.tmp rfl RVal.nil) Pick.nil ?_; rfl)
    · rw [okH_0 h1 h2]
      repeat' first
        | apply cw_seq
        | (refine cw_region_id 0 ?_; (apply ol_val; rfl; first | (apply s_boxN; rfl; intro bk2) | (apply s_box1; rfl; rfl; intro bk2)); (apply ol_val; rfl; first | (apply s_boxN; rfl; intro bk3) | (apply s_box1; rfl; rfl; intro bk3)); (apply ol_as; rfl; rfl); (apply ol_nil))
        | (refine cw_region_id 1 ?_; (apply ol_fa; rfl; rfl; exact fd_25_0; exact qZ); (apply ol_ld; rfl; rfl; rfl; exact qP); (apply ol_nil))
        | (refine cw_region_id 2 ?_; (apply ol_val; rfl; apply stp_cmp; apply s_eql; rfl; rfl; all_goals (intro hc8; try (exfalso; (first | exact hc8 rfl | omega)))); all_goals (apply ol_as; rfl; rfl); all_goals (apply ol_nil))
        | (refine cw_region_id 3 ?_; (apply ol_fa; rfl; rfl; exact fd_25_2; exact qZ); (apply ol_ld; rfl; rfl; rfl; exact qP); (apply ol_val; rfl; apply stp_pur; apply s_len; rfl; exact el_22); (apply ol_val; rfl; apply stp_cmp; apply s_eql; rfl; rfl; all_goals (intro hc12; try (exfalso; (first | exact hc12 rfl | omega)))); all_goals (apply ol_mv; rfl; rfl); all_goals (first | (apply ol_gskip; rfl; rfl; exact qA; rfl) | (apply ol_gval; rfl; rfl; rfl; exact qA; apply stp_pur; apply s_fieldAddr'; rfl; exact fd_25_3; exact qZ)); all_goals (first | (apply ol_gskip; rfl; rfl; exact qA; rfl) | (apply ol_gval; rfl; rfl; rfl; exact qA; apply stp_pur; apply s_load1; rfl; rfl; exact qP)); all_goals (first | (apply ol_gskip; rfl; rfl; exact qA; rfl) | (apply ol_gval; rfl; rfl; rfl; exact qA; apply stp_pur; apply s_len; rfl; exact el_23)); all_goals (first | (apply ol_gskip; rfl; rfl; exact qA; rfl) | (apply ol_gval; rfl; rfl; rfl; exact qA; apply stp_cmp; apply s_eql; rfl; rfl; all_goals (intro hc17; try (exfalso; (first | exact hc17 rfl | omega))))); all_goals (apply ol_val; rfl; apply stp_pur; first | (apply s_pick_t; rfl; exact qA; rfl) | (apply s_pick_f; rfl; exact qA; rfl)); all_goals (apply ol_as; rfl; rfl); all_goals (apply ol_nil))
        | (refine cw_region_id 4 ?_; (apply ol_val; rfl; apply stp_cmp; apply s_eql; rfl; rfl; all_goals (intro hc20; try (exfalso; (first | exact hc20 rfl | omega)))); all_goals (apply ol_as; rfl; rfl); all_goals (apply ol_nil))
        | (refine cw_region_id 5 ?_; (apply ol_fa; rfl; rfl; exact fd_25_1; exact qZ); (apply ol_ld; rfl; rfl; rfl; exact qP); (apply ol_val; rfl; apply stp_cmp; apply s_eql; rfl; rfl; all_goals (intro hc23; try (exfalso; (first | exact hc23 rfl | omega)))); all_goals (apply ol_mv; rfl; rfl); all_goals (first | (apply ol_gskip; rfl; rfl; exact qA; rfl) | (apply ol_gval; rfl; rfl; rfl; exact qA; apply stp_pur; apply s_fieldAddr'; rfl; exact fd_25_3; exact qZ)); all_goals (first | (apply ol_gskip; rfl; rfl; exact qA; rfl) | (apply ol_gval; rfl; rfl; rfl; exact qA; apply stp_pur; apply s_load1; rfl; rfl; exact qP)); all_goals (first | (apply ol_gskip; rfl; rfl; exact qA; rfl) | (apply ol_gval; rfl; rfl; rfl; exact qA; apply stp_pur; apply s_len; rfl; exact el_23)); all_goals (first | (apply ol_gskip; rfl; rfl; exact qA; rfl) | (apply ol_gval; rfl; rfl; rfl; exact qA; apply stp_cmp; apply s_eql; rfl; rfl; all_goals (intro hc28; try (exfalso; (first | exact hc28 rfl | omega))))); all_goals (apply ol_val; rfl; apply stp_pur; first | (apply s_pick_t; rfl; exact qA; rfl) | (apply s_pick_f; rfl; exact qA; rfl)); all_goals (apply ol_as; rfl; rfl); all_goals (apply ol_nil))
        | (refine cw_region_id 6 ?_; (apply ol_val; rfl; apply stp_cmp; apply s_eql; rfl; rfl; all_goals (intro hc31; try (exfalso; (first | exact hc31 rfl | omega)))); all_goals (apply ol_as; rfl; rfl); all_goals (apply ol_nil))
        | (refine cw_region_id 7 ?_; (apply ol_fa; rfl; rfl; exact fd_25_1; exact qZ); (apply ol_ld; rfl; rfl; rfl; exact qP); (apply ol_val; rfl; apply stp_cmp; apply s_eql; rfl; rfl; all_goals (intro hc34; try (exfalso; (first | exact hc34 rfl | omega)))); all_goals (apply ol_mv; rfl; rfl); all_goals (first | (apply ol_gskip; rfl; rfl; exact qA; rfl) | (apply ol_gval; rfl; rfl; rfl; exact qA; apply stp_pur; apply s_fieldAddr'; rfl; exact fd_25_2; exact qZ)); all_goals (first | (apply ol_gskip; rfl; rfl; exact qA; rfl) | (apply ol_gval; rfl; rfl; rfl; exact qA; apply stp_pur; apply s_load1; rfl; rfl; exact qP)); all_goals (first | (apply ol_gskip; rfl; rfl; exact qA; rfl) | (apply ol_gval; rfl; rfl; rfl; exact qA; apply stp_pur; apply s_len; rfl; exact el_22)); all_goals (first | (apply ol_gskip; rfl; rfl; exact qA; rfl) | (apply ol_gval; rfl; rfl; rfl; exact qA; apply stp_cmp; apply s_eql; rfl; rfl; all_goals (intro hc39; try (exfalso; (first | exact hc39 rfl | omega))))); all_goals (apply ol_val; rfl; apply stp_pur; first | (apply s_pick_t; rfl; exact qA; rfl) | (apply s_pick_f; rfl; exact qA; rfl)); all_goals (apply ol_mv; rfl; rfl); all_goals (first | (apply ol_gskip; rfl; rfl; exact qA; rfl) | (apply ol_gval; rfl; rfl; rfl; exact qA; apply stp_pur; apply s_load1; rfl; rfl; exact qP)); all_goals (first | (apply ol_gskip; rfl; rfl; exact qA; rfl) | (apply ol_gval; rfl; rfl; rfl; exact qA; apply stp_cmp; apply s_gtr; rfl; rfl; all_goals (intro hc43; try (exfalso; (first | exact hc43 rfl | omega))))); all_goals (apply ol_val; rfl; apply stp_pur; first | (apply s_pick_t; rfl; exact qA; rfl) | (apply s_pick_f; rfl; exact qA; rfl)); all_goals (apply ol_mv; rfl; rfl); all_goals (first | (apply ol_gskip; rfl; rfl; exact qA; rfl) | (apply ol_gval; rfl; rfl; rfl; exact qA; apply stp_pur; apply s_fieldAddr'; rfl; exact fd_25_3; exact qZ)); all_goals (first | (apply ol_gskip; rfl; rfl; exact qA; rfl) | (apply ol_gval; rfl; rfl; rfl; exact qA; apply stp_pur; apply s_load1; rfl; rfl; exact qP)); all_goals (first | (apply ol_gskip; rfl; rfl; exact qA; rfl) | (apply ol_gval; rfl; rfl; rfl; exact qA; apply stp_pur; apply s_len; rfl; exact el_23)); all_goals (first | (apply ol_gskip; rfl; rfl; exact qA; rfl) | (apply ol_gval; rfl; rfl; rfl; exact qA; apply stp_cmp; apply s_leq; rfl; rfl; all_goals (intro hc49; try (exfalso; (first | exact hc49 rfl | omega))))); all_goals (apply ol_val; rfl; apply stp_pur; first | (apply s_pick_t; rfl; exact qA; rfl) | (apply s_pick_f; rfl; exact qA; rfl)); all_goals (apply ol_mv; rfl; rfl); all_goals (first | (apply ol_gskip; rfl; rfl; exact qA; rfl) | (apply ol_gval; rfl; rfl; rfl; exact qA; apply stp_pur; apply s_fieldAddr'; rfl; exact fd_25_3; exact qZ)); all_goals (first | (apply ol_gskip; rfl; rfl; exact qA; rfl) | (apply ol_gval; rfl; rfl; rfl; exact qA; apply stp_pur; apply s_load1; rfl; rfl; exact qP)); all_goals (first | (apply ol_gskip; rfl; rfl; exact qA; rfl) | (apply ol_gval; rfl; rfl; rfl; exact qA; apply stp_pur; apply s_makeFunc; rfl; rfl)); all_goals (first | (apply ol_gskip; rfl; rfl; exact qA; rfl) | (apply ol_gval; rfl; rfl; rfl; exact qA; fail)); all_goals (first | (apply ol_gskip; rfl; rfl; exact qA; rfl) | (apply ol_gval; rfl; rfl; rfl; exact qA; apply stp_pur; first | (apply s_not_t; rfl; exact qA) | (apply s_not_f; rfl; exact qA) | (apply s_not; rfl))); all_goals (apply ol_val; rfl; apply stp_pur; first | (apply s_pick_t; rfl; exact qA; rfl) | (apply s_pick_f; rfl; exact qA; rfl)); all_goals (apply ol_as; rfl; rfl); all_goals (apply ol_nil))
        | (refine cw_region_id 8 ?_; (apply ol_as; rfl; rfl); (apply ol_nil))
        | (apply cw_cond_true; rfl; exact qA)
        | (apply cw_cond_false; rfl; exact qA)
        | apply cw_skip
        | apply cw_ret
        | apply cw_block
        | apply cw_exit
      all_goals (refine ends [] (RVal.tmp rfl RVal.nil) Pick.nil ?_; rfl)
/-- What the function that is handed on says of an item in a list. -/
theorem clo_spec {M : View} {w : World} (hM : View.le M (View.of w)) {d : Nat} (hd : d ≤ 100) {x : It d} {r : Bool} (ih : ∀ (w' : World), View.le M (View.of w') → FnC Tryd.prog 37 [.agg x.enc.toArray, .int .i64 d] w' (fun v _ => v = .bool r)) {b : Nat} (hb : GetN (M.cell b) 0 1 [.int .i64 ((d + 1 : Nat) : Int)]) :
    FnC Tryd.prog 47 [.agg x.enc.toArray, .pointer (some ⟨b, 0, none⟩)] w (fun v _ => v = .bool (!r)) := by
  rw [show ((d : Nat) : Int) = ((d + 1 : Nat) : Int) - 1 by omega] at ih
  unfold It.enc at *
  generalize x.hd = h at *
  obtain ⟨k, n, ⟨xs, Ba, Bb, Bo, Bc⟩, La, Lb, Lo, Lc, m⟩ := h
  dsimp only at ih ⊢
  refine enterF (M := M) Tryd.func47 rfl rfl rfl rfl hM ?_
  repeat' first
    | apply cw_seq
    | (refine cw_region_id 0 ?_; (apply ol_val; rfl; first | (apply s_boxN; rfl; intro bk2) | (apply s_box1; rfl; rfl; intro bk2)); (apply ol_as; rfl; rfl); (apply ol_nil))
    | (refine cw_region_id 1 ?_; (apply ol_ldN; rfl; rfl; rfl; exact sz_25; (first | exact qQ | (apply RdN.view; exact hb))); (apply ol_ld; rfl; rfl; rfl; (first | exact qP | (apply RdN.view; exact hb))); (apply ol_val; rfl; apply stp_pur; apply s_sub64; rfl; rfl; omega); (apply ol_val; rfl; apply s_callv; rfl; exact gf_37; (intro w' hw'; exact ih w' hw'.le)); (apply ol_val; rfl; apply stp_pur; first | (apply s_not_t; rfl; exact qA) | (apply s_not_f; rfl; exact qA) | (apply s_not; rfl)); (apply ol_as; rfl; rfl); (apply ol_nil))
    | (apply cw_cond_true; rfl; exact qA)
    | (apply cw_cond_false; rfl; exact qA)
    | apply cw_skip
    | apply cw_ret
    | apply cw_block
    | apply cw_exit
  refine ends [] (RVal.tmp rfl RVal.nil) Pick.nil ?_
  rfl
end Go.Proofs.YtkkfgeekdaalmaaDoor
namespace Go.Proofs.YtkkfgeekdaalmaaDoor
set_option maxRecDepth 20000
set_option linter.unusedSimpArgs false
set_option linter.unusedVariables false
open Go Go.Fw
attribute [local irreducible] CW OL OD FX Stp FnC FnV Ret
set_option maxHeartbeats 1600000
theorem within_spec : ∀ (d : Nat), d ≤ 8 → ∀ {M : View} {w : World}, View.le M (View.of w) → ∀ {x : It d}, ItV M d x →
    FnC Tryd.prog 37 [.agg x.enc.toArray, .int .i64 d] w (fun v _ => v = .bool (okI d x)) := by
  intro d
  induction d with
  | zero =>
    intro _ M w hM x hx
    rw [okI_leaf (.inr rfl)]
    exact within_leaf hM hx.head (.inr rfl)
  | succ d ih =>
    intro hd M w hM x hx
    by_cases h3 : x.hd.k = 3
    · obtain ⟨h, L⟩ := x
      obtain ⟨hv, hl, sL, hL⟩ := hx
      have h3' : h.k = 3 := h3
      have e : okI (d + 1) (h, L) = (decide (h.n = 0 ∧ h.B.xs.length = 0 ∧ h.m ≤ 1000) && L.all (okI d)) := by
        show (if h.k = 3 then decide (h.n = 0 ∧ h.B.xs.length = 0 ∧ h.m ≤ 1000) && L.all (okI d) else okH h) = _
        rw [if_pos h3']
      rw [e]
      have hxe : It.enc (d := d + 1) (h, L) = [.int .i64 h.k, .int .i64 h.n, .slice h.B.a h.B.xs.length h.B.c, .slice h.La h.m h.Lc] := rfl
      rw [hxe]
      clear hxe e h3
      obtain ⟨k, n, ⟨xs, Ba, Bb, Bo, Bc⟩, La, Lb, Lo, Lc, m⟩ := h
      dsimp only at hv hl sL h3' ⊢
      subst h3'
      have hm4 := hv.2.2.2
      dsimp only at hm4
      have hany : L.any (fun x => !okI d x) = !L.all (okI d) := by rw [List.all_eq_not_any_not]; simp
      have kc : ∀ (w' : World) (b : Nat), View.le M (View.of w') → OB.ok ⟨some b, [.int .i64 ((d + 1 : Nat) : Int)], 3⟩ w' → FnC Tryd.prog 20 [.slice La m Lc, .func (.func 47) #[] [.pointer (some ⟨b, 0, none⟩)].toArray] w' (fun v _ => v = .bool (!L.all (okI d))) := fun w' b h hb =>
        anyIt_spec (View.le.refl (View.of w')) (cap := [.pointer (some ⟨b, 0, none⟩)]) (p := fun x => !okI d x) (f := 47) (by kernel_rfl) (xs := L) (fun w'' x hx h2 => clo_spec h2 (by omega) (fun w3 h3 => ih (by omega) (View.le.trans h h3) (hL x hx)) (show GetN ((View.of w').cell b) 0 1 [.int .i64 ((d + 1 : Nat) : Int)] from GetN.cons (OB.cell hb (by rfl)) GetN.nil)) hany hl (sL.mono h) (by omega)
      generalize L.all (okI d) = r at *
      refine enterF (M := M) Tryd.func37 rfl rfl rfl rfl hM ?_
      by_cases hc : n = 0 ∧ xs.length = 0 ∧ m ≤ 1000
      · rw [decide_eq_true hc, Bool.true_and]
        cases r with
        | true =>
          repeat' first
            | apply cw_seq
            | (refine cw_region_id 0 ?_; (apply ol_val; rfl; first | (apply s_boxN; rfl; intro bk2) | (apply s_box1; rfl; rfl; intro bk2)); (apply ol_val; rfl; first | (apply s_boxN; rfl; intro bk3) | (apply s_box1; rfl; rfl; intro bk3)); (apply ol_as; rfl; rfl); (apply ol_nil))
            | (refine cw_region_id 1 ?_; (apply ol_fa; rfl; rfl; exact fd_25_0; exact qZ); (apply ol_ld; rfl; rfl; rfl; exact qP); (apply ol_nil))
            | (refine cw_region_id 2 ?_; (apply ol_val; rfl; apply stp_cmp; apply s_eql; rfl; rfl; all_goals (intro hc8; try (exfalso; (first | exact hc8 rfl | omega)))); all_goals (apply ol_as; rfl; rfl); all_goals (apply ol_nil))
            | (refine cw_region_id 4 ?_; (apply ol_val; rfl; apply stp_cmp; apply s_eql; rfl; rfl; all_goals (intro hc20; try (exfalso; (first | exact hc20 rfl | omega)))); all_goals (apply ol_as; rfl; rfl); all_goals (apply ol_nil))
            | (refine cw_region_id 6 ?_; (apply ol_val; rfl; apply stp_cmp; apply s_eql; rfl; rfl; all_goals (intro hc31; try (exfalso; (first | exact hc31 rfl | omega)))); all_goals (apply ol_as; rfl; rfl); all_goals (apply ol_nil))
            | (refine cw_region_id 7 ?_; (apply ol_fa; rfl; rfl; exact fd_25_1; exact qZ); (apply ol_ld; rfl; rfl; rfl; exact qP); (apply ol_val; rfl; apply stp_cmp; apply s_eql; rfl; rfl; all_goals (intro hc34; try (exfalso; (first | exact hc34 rfl | omega)))); all_goals (apply ol_mv; rfl; rfl); all_goals (first | (apply ol_gskip; rfl; rfl; exact qA; rfl) | (apply ol_gval; rfl; rfl; rfl; exact qA; apply stp_pur; apply s_fieldAddr'; rfl; exact fd_25_2; exact qZ)); all_goals (first | (apply ol_gskip; rfl; rfl; exact qA; rfl) | (apply ol_gval; rfl; rfl; rfl; exact qA; apply stp_pur; apply s_load1; rfl; rfl; exact qP)); all_goals (first | (apply ol_gskip; rfl; rfl; exact qA; rfl) | (apply ol_gval; rfl; rfl; rfl; exact qA; apply stp_pur; apply s_len; rfl; exact el_22)); all_goals (first | (apply ol_gskip; rfl; rfl; exact qA; rfl) | (apply ol_gval; rfl; rfl; rfl; exact qA; apply stp_cmp; apply s_eql; rfl; rfl; all_goals (intro hc39; try (exfalso; (first | exact hc39 rfl | omega))))); all_goals (apply ol_val; rfl; apply stp_pur; first | (apply s_pick_t; rfl; exact qA; rfl) | (apply s_pick_f; rfl; exact qA; rfl)); all_goals (apply ol_mv; rfl; rfl); all_goals (first | (apply ol_gskip; rfl; rfl; exact qA; rfl) | (apply ol_gval; rfl; rfl; rfl; exact qA; apply stp_pur; apply s_load1; rfl; rfl; exact qP)); all_goals (first | (apply ol_gskip; rfl; rfl; exact qA; rfl) | (apply ol_gval; rfl; rfl; rfl; exact qA; apply stp_cmp; apply s_gtr; rfl; rfl; all_goals (intro hc43; try (exfalso; (first | exact hc43 rfl | omega))))); all_goals (apply ol_val; rfl; apply stp_pur; first | (apply s_pick_t; rfl; exact qA; rfl) | (apply s_pick_f; rfl; exact qA; rfl)); all_goals (apply ol_mv; rfl; rfl); all_goals (first | (apply ol_gskip; rfl; rfl; exact qA; rfl) | (apply ol_gval; rfl; rfl; rfl; exact qA; apply stp_pur; apply s_fieldAddr'; rfl; exact fd_25_3; exact qZ)); all_goals (first | (apply ol_gskip; rfl; rfl; exact qA; rfl) | (apply ol_gval; rfl; rfl; rfl; exact qA; apply stp_pur; apply s_load1; rfl; rfl; exact qP)); all_goals (first | (apply ol_gskip; rfl; rfl; exact qA; rfl) | (apply ol_gval; rfl; rfl; rfl; exact qA; apply stp_pur; apply s_len; rfl; exact el_23)); all_goals (first | (apply ol_gskip; rfl; rfl; exact qA; rfl) | (apply ol_gval; rfl; rfl; rfl; exact qA; apply stp_cmp; apply s_leq; rfl; rfl; all_goals (intro hc49; try (exfalso; (first | exact hc49 rfl | omega))))); all_goals (apply ol_val; rfl; apply stp_pur; first | (apply s_pick_t; rfl; exact qA; rfl) | (apply s_pick_f; rfl; exact qA; rfl)); all_goals (apply ol_mv; rfl; rfl); all_goals (first | (apply ol_gskip; rfl; rfl; exact qA; rfl) | (apply ol_gval; rfl; rfl; rfl; exact qA; apply stp_pur; apply s_fieldAddr'; rfl; exact fd_25_3; exact qZ)); all_goals (first | (apply ol_gskip; rfl; rfl; exact qA; rfl) | (apply ol_gval; rfl; rfl; rfl; exact qA; apply stp_pur; apply s_load1; rfl; rfl; exact qP)); all_goals (first | (apply ol_gskip; rfl; rfl; exact qA; rfl) | (apply ol_gval; rfl; rfl; rfl; exact qA; apply stp_pur; apply s_makeFunc; rfl; rfl)); all_goals (first | (apply ol_gskip; rfl; rfl; exact qA; rfl) | (apply ol_gval; rfl; rfl; rfl; exact qA; apply s_callv; rfl; exact gf_20; (intro w' hw'; exact kc w' _ hw'.le (hw'.ok_ (by (repeat (first | exact Has.here | apply Has.there))))))); all_goals (first | (apply ol_gskip; rfl; rfl; exact qA; rfl) | (apply ol_gval; rfl; rfl; rfl; exact qA; apply stp_pur; first | (apply s_not_t; rfl; exact qA) | (apply s_not_f; rfl; exact qA) | (apply s_not; rfl))); all_goals (apply ol_val; rfl; apply stp_pur; first | (apply s_pick_t; rfl; exact qA; rfl) | (apply s_pick_f; rfl; exact qA; rfl)); all_goals (apply ol_as; rfl; rfl); all_goals (apply ol_nil))
            | (apply cw_cond_true; rfl; exact qA)
            | (apply cw_cond_false; rfl; exact qA)
            | apply cw_skip
            | apply cw_ret
            | apply cw_block
            | apply cw_exit
          all_goals (refine ends [] (RVal.tmp rfl RVal.nil) Pick.nil ?_; rfl)
        | false =>
          repeat' first
            | apply cw_seq
            | (refine cw_region_id 0 ?_; (apply ol_val; rfl; first | (apply s_boxN; rfl; intro bk2) | (apply s_box1; rfl; rfl; intro bk2)); (apply ol_val; rfl; first | (apply s_boxN; rfl; intro bk3) | (apply s_box1; rfl; rfl; intro bk3)); (apply ol_as; rfl; rfl); (apply ol_nil))
            | (refine cw_region_id 1 ?_; (apply ol_fa; rfl; rfl; exact fd_25_0; exact qZ); (apply ol_ld; rfl; rfl; rfl; exact qP); (apply ol_nil))
            | (refine cw_region_id 2 ?_; (apply ol_val; rfl; apply stp_cmp; apply s_eql; rfl; rfl; all_goals (intro hc8; try (exfalso; (first | exact hc8 rfl | omega)))); all_goals (apply ol_as; rfl; rfl); all_goals (apply ol_nil))
            | (refine cw_region_id 4 ?_; (apply ol_val; rfl; apply stp_cmp; apply s_eql; rfl; rfl; all_goals (intro hc20; try (exfalso; (first | exact hc20 rfl | omega)))); all_goals (apply ol_as; rfl; rfl); all_goals (apply ol_nil))
            | (refine cw_region_id 6 ?_; (apply ol_val; rfl; apply stp_cmp; apply s_eql; rfl; rfl; all_goals (intro hc31; try (exfalso; (first | exact hc31 rfl | omega)))); all_goals (apply ol_as; rfl; rfl); all_goals (apply ol_nil))
            | (refine cw_region_id 7 ?_; (apply ol_fa; rfl; rfl; exact fd_25_1; exact qZ); (apply ol_ld; rfl; rfl; rfl; exact qP); (apply ol_val; rfl; apply stp_cmp; apply s_eql; rfl; rfl; all_goals (intro hc34; try (exfalso; (first | exact hc34 rfl | omega)))); all_goals (apply ol_mv; rfl; rfl); all_goals (first | (apply ol_gskip; rfl; rfl; exact qA; rfl) | (apply ol_gval; rfl; rfl; rfl; exact qA; apply stp_pur; apply s_fieldAddr'; rfl; exact fd_25_2; exact qZ)); all_goals (first | (apply ol_gskip; rfl; rfl; exact qA; rfl) | (apply ol_gval; rfl; rfl; rfl; exact qA; apply stp_pur; apply s_load1; rfl; rfl; exact qP)); all_goals (first | (apply ol_gskip; rfl; rfl; exact qA; rfl) | (apply ol_gval; rfl; rfl; rfl; exact qA; apply stp_pur; apply s_len; rfl; exact el_22)); all_goals (first | (apply ol_gskip; rfl; rfl; exact qA; rfl) | (apply ol_gval; rfl; rfl; rfl; exact qA; apply stp_cmp; apply s_eql; rfl; rfl; all_goals (intro hc39; try (exfalso; (first | exact hc39 rfl | omega))))); all_goals (apply ol_val; rfl; apply stp_pur; first | (apply s_pick_t; rfl; exact qA; rfl) | (apply s_pick_f; rfl; exact qA; rfl)); all_goals (apply ol_mv; rfl; rfl); all_goals (first | (apply ol_gskip; rfl; rfl; exact qA; rfl) | (apply ol_gval; rfl; rfl; rfl; exact qA; apply stp_pur; apply s_load1; rfl; rfl; exact qP)); all_goals (first | (apply ol_gskip; rfl; rfl; exact qA; rfl) | (apply ol_gval; rfl; rfl; rfl; exact qA; apply stp_cmp; apply s_gtr; rfl; rfl; all_goals (intro hc43; try (exfalso; (first | exact hc43 rfl | omega))))); all_goals (apply ol_val; rfl; apply stp_pur; first | (apply s_pick_t; rfl; exact qA; rfl) | (apply s_pick_f; rfl; exact qA; rfl)); all_goals (apply ol_mv; rfl; rfl); all_goals (first | (apply ol_gskip; rfl; rfl; exact qA; rfl) | (apply ol_gval; rfl; rfl; rfl; exact qA; apply stp_pur; apply s_fieldAddr'; rfl; exact fd_25_3; exact qZ)); all_goals (first | (apply ol_gskip; rfl; rfl; exact qA; rfl) | (apply ol_gval; rfl; rfl; rfl; exact qA; apply stp_pur; apply s_load1; rfl; rfl; exact qP)); all_goals (first | (apply ol_gskip; rfl; rfl; exact qA; rfl) | (apply ol_gval; rfl; rfl; rfl; exact qA; apply stp_pur; apply s_len; rfl; exact el_23)); all_goals (first | (apply ol_gskip; rfl; rfl; exact qA; rfl) | (apply ol_gval; rfl; rfl; rfl; exact qA; apply stp_cmp; apply s_leq; rfl; rfl; all_goals (intro hc49; try (exfalso; (first | exact hc49 rfl | omega))))); all_goals (apply ol_val; rfl; apply stp_pur; first | (apply s_pick_t; rfl; exact qA; rfl) | (apply s_pick_f; rfl; exact qA; rfl)); all_goals (apply ol_mv; rfl; rfl); all_goals (first | (apply ol_gskip; rfl; rfl; exact qA; rfl) | (apply ol_gval; rfl; rfl; rfl; exact qA; apply stp_pur; apply s_fieldAddr'; rfl; exact fd_25_3; exact qZ)); all_goals (first | (apply ol_gskip; rfl; rfl; exact qA; rfl) | (apply ol_gval; rfl; rfl; rfl; exact qA; apply stp_pur; apply s_load1; rfl; rfl; exact qP)); all_goals (first | (apply ol_gskip; rfl; rfl; exact qA; rfl) | (apply ol_gval; rfl; rfl; rfl; exact qA; apply stp_pur; apply s_makeFunc; rfl; rfl)); all_goals (first | (apply ol_gskip; rfl; rfl; exact qA; rfl) | (apply ol_gval; rfl; rfl; rfl; exact qA; apply s_callv; rfl; exact gf_20; (intro w' hw'; exact kc w' _ hw'.le (hw'.ok_ (by (repeat (first | exact Has.here | apply Has.there))))))); all_goals (first | (apply ol_gskip; rfl; rfl; exact qA; rfl) | (apply ol_gval; rfl; rfl; rfl; exact qA; apply stp_pur; first | (apply s_not_t; rfl; exact qA) | (apply s_not_f; rfl; exact qA) | (apply s_not; rfl))); all_goals (apply ol_val; rfl; apply stp_pur; first | (apply s_pick_t; rfl; exact qA; rfl) | (apply s_pick_f; rfl; exact qA; rfl)); all_goals (apply ol_as; rfl; rfl); all_goals (apply ol_nil))
            | (apply cw_cond_true; rfl; exact qA)
            | (apply cw_cond_false; rfl; exact qA)
            | apply cw_skip
            | apply cw_ret
            | apply cw_block
            | apply cw_exit
          all_goals (refine ends [] (RVal.tmp rfl RVal.nil) Pick.nil ?_; rfl)
      · rw [decide_eq_false hc, Bool.false_and]
        repeat' first
          | apply cw_seq
          | (refine cw_region_id 0 ?_; (apply ol_val; rfl; first | (apply s_boxN; rfl; intro bk2) | (apply s_box1; rfl; rfl; intro bk2)); (apply ol_val; rfl; first | (apply s_boxN; rfl; intro bk3) | (apply s_box1; rfl; rfl; intro bk3)); (apply ol_as; rfl; rfl); (apply ol_nil))
          | (refine cw_region_id 1 ?_; (apply ol_fa; rfl; rfl; exact fd_25_0; exact qZ); (apply ol_ld; rfl; rfl; rfl; exact qP); (apply ol_nil))
          | (refine cw_region_id 2 ?_; (apply ol_val; rfl; apply stp_cmp; apply s_eql; rfl; rfl; all_goals (intro hc8; try (exfalso; (first | exact hc8 rfl | omega)))); all_goals (apply ol_as; rfl; rfl); all_goals (apply ol_nil))
          | (refine cw_region_id 4 ?_; (apply ol_val; rfl; apply stp_cmp; apply s_eql; rfl; rfl; all_goals (intro hc20; try (exfalso; (first | exact hc20 rfl | omega)))); all_goals (apply ol_as; rfl; rfl); all_goals (apply ol_nil))
          | (refine cw_region_id 6 ?_; (apply ol_val; rfl; apply stp_cmp; apply s_eql; rfl; rfl; all_goals (intro hc31; try (exfalso; (first | exact hc31 rfl | omega)))); all_goals (apply ol_as; rfl; rfl); all_goals (apply ol_nil))
          | (refine cw_region_id 7 ?_; (apply ol_fa; rfl; rfl; exact fd_25_1; exact qZ); (apply ol_ld; rfl; rfl; rfl; exact qP); (apply ol_val; rfl; apply stp_cmp; apply s_eql; rfl; rfl; all_goals (intro hc34; try (exfalso; (first | exact hc34 rfl | omega)))); all_goals (apply ol_mv; rfl; rfl); all_goals (first | (apply ol_gskip; rfl; rfl; exact qA; rfl) | (apply ol_gval; rfl; rfl; rfl; exact qA; apply stp_pur; apply s_fieldAddr'; rfl; exact fd_25_2; exact qZ)); all_goals (first | (apply ol_gskip; rfl; rfl; exact qA; rfl) | (apply ol_gval; rfl; rfl; rfl; exact qA; apply stp_pur; apply s_load1; rfl; rfl; exact qP)); all_goals (first | (apply ol_gskip; rfl; rfl; exact qA; rfl) | (apply ol_gval; rfl; rfl; rfl; exact qA; apply stp_pur; apply s_len; rfl; exact el_22)); all_goals (first | (apply ol_gskip; rfl; rfl; exact qA; rfl) | (apply ol_gval; rfl; rfl; rfl; exact qA; apply stp_cmp; apply s_eql; rfl; rfl; all_goals (intro hc39; try (exfalso; (first | exact hc39 rfl | omega))))); all_goals (apply ol_val; rfl; apply stp_pur; first | (apply s_pick_t; rfl; exact qA; rfl) | (apply s_pick_f; rfl; exact qA; rfl)); all_goals (apply ol_mv; rfl; rfl); all_goals (first | (apply ol_gskip; rfl; rfl; exact qA; rfl) | (apply ol_gval; rfl; rfl; rfl; exact qA; apply stp_pur; apply s_load1; rfl; rfl; exact qP)); all_goals (first | (apply ol_gskip; rfl; rfl; exact qA; rfl) | (apply ol_gval; rfl; rfl; rfl; exact qA; apply stp_cmp; apply s_gtr; rfl; rfl; all_goals (intro hc43; try (exfalso; (first | exact hc43 rfl | omega))))); all_goals (apply ol_val; rfl; apply stp_pur; first | (apply s_pick_t; rfl; exact qA; rfl) | (apply s_pick_f; rfl; exact qA; rfl)); all_goals (apply ol_mv; rfl; rfl); all_goals (first | (apply ol_gskip; rfl; rfl; exact qA; rfl) | (apply ol_gval; rfl; rfl; rfl; exact qA; apply stp_pur; apply s_fieldAddr'; rfl; exact fd_25_3; exact qZ)); all_goals (first | (apply ol_gskip; rfl; rfl; exact qA; rfl) | (apply ol_gval; rfl; rfl; rfl; exact qA; apply stp_pur; apply s_load1; rfl; rfl; exact qP)); all_goals (first | (apply ol_gskip; rfl; rfl; exact qA; rfl) | (apply ol_gval; rfl; rfl; rfl; exact qA; apply stp_pur; apply s_len; rfl; exact el_23)); all_goals (first | (apply ol_gskip; rfl; rfl; exact qA; rfl) | (apply ol_gval; rfl; rfl; rfl; exact qA; apply stp_cmp; apply s_leq; rfl; rfl; all_goals (intro hc49; try (exfalso; (first | exact hc49 rfl | omega))))); all_goals (apply ol_val; rfl; apply stp_pur; first | (apply s_pick_t; rfl; exact qA; rfl) | (apply s_pick_f; rfl; exact qA; rfl)); all_goals (apply ol_mv; rfl; rfl); all_goals (first | (apply ol_gskip; rfl; rfl; exact qA; rfl) | (apply ol_gval; rfl; rfl; rfl; exact qA; apply stp_pur; apply s_fieldAddr'; rfl; exact fd_25_3; exact qZ)); all_goals (first | (apply ol_gskip; rfl; rfl; exact qA; rfl) | (apply ol_gval; rfl; rfl; rfl; exact qA; apply stp_pur; apply s_load1; rfl; rfl; exact qP)); all_goals (first | (apply ol_gskip; rfl; rfl; exact qA; rfl) | (apply ol_gval; rfl; rfl; rfl; exact qA; apply stp_pur; apply s_makeFunc; rfl; rfl)); all_goals (first | (apply ol_gskip; rfl; rfl; exact qA; rfl) | (apply ol_gval; rfl; rfl; rfl; exact qA; fail)); all_goals (first | (apply ol_gskip; rfl; rfl; exact qA; rfl) | (apply ol_gval; rfl; rfl; rfl; exact qA; apply stp_pur; first | (apply s_not_t; rfl; exact qA) | (apply s_not_f; rfl; exact qA) | (apply s_not; rfl))); all_goals (apply ol_val; rfl; apply stp_pur; first | (apply s_pick_t; rfl; exact qA; rfl) | (apply s_pick_f; rfl; exact qA; rfl)); all_goals (apply ol_as; rfl; rfl); all_goals (apply ol_nil))
          | (apply cw_cond_true; rfl; exact qA)
          | (apply cw_cond_false; rfl; exact qA)
          | apply cw_skip
          | apply cw_ret
          | apply cw_block
          | apply cw_exit
        all_goals (refine ends [] (RVal.tmp rfl RVal.nil) Pick.nil ?_; rfl)
    · rw [okI_leaf (.inl h3)]
      exact within_leaf hM hx.head (.inl h3)
theorem valid_spec {M : View} {w : World} (hM : View.le M (View.of w)) {x : It 8} (hx : ItV M 8 x) :
    FnC Tryd.prog 14 [.agg x.enc.toArray] w (fun v _ => v = .bool (okI 8 x)) := by
  have kw := fun (w' : World) (h : View.le M (View.of w')) => within_spec 8 (Nat.le_refl _) h hx
  unfold It.enc at *
  generalize x.hd = h at *
  obtain ⟨k, n, ⟨xs, Ba, Bb, Bo, Bc⟩, La, Lb, Lo, Lc, m⟩ := h
  dsimp only at kw ⊢
  generalize okI 8 x = r at *
  refine enterF (M := M) Tryd.func14 rfl rfl rfl rfl hM ?_
  repeat' first
    | apply cw_seq
    | (refine cw_region_id 0 ?_; (apply ol_val; rfl; first | (apply s_boxN; rfl; intro bk1) | (apply s_box1; rfl; rfl; intro bk1)); (apply ol_as; rfl; rfl); (apply ol_nil))
    | (refine cw_region_id 1 ?_; (apply ol_ldN; rfl; rfl; rfl; exact sz_25; exact qQ); (apply ol_val; rfl; apply s_callv; rfl; exact gf_37; (intro w' hw'; exact kw w' hw'.le)); (apply ol_as; rfl; rfl); (apply ol_nil))
    | (apply cw_cond_true; rfl; exact qA)
    | (apply cw_cond_false; rfl; exact qA)
    | apply cw_skip
    | apply cw_ret
    | apply cw_block
    | apply cw_exit
  refine ends [] (RVal.tmp rfl RVal.nil) Pick.nil ?_
  rfl
end Go.Proofs.YtkkfgeekdaalmaaDoor
namespace Go.Proofs.YtkkfgeekdaalmaaDoor
set_option maxRecDepth 20000
set_option linter.unusedSimpArgs false
set_option linter.unusedVariables false
open Go Go.Fw
attribute [local irreducible] CW OL OD FX Stp FnC FnV Ret
set_option maxHeartbeats 1600000
theorem rvalid_leaf {M : View} {w : World} (hM : View.le M (View.of w)) {d : Nat} (hd : d ≤ 8) {x : It d} (hv : HdV M x.hd) (h3 : x.hd.k ≠ 3 ∨ d = 0) :
    FnC Tryd.prog 36 [.agg x.enc.toArray, .int .i64 (8 - (d : Int))] w (fun v _ => v = .bool (okH x.hd)) := by
  unfold It.enc
  generalize x.hd = h at *
  obtain ⟨k, n, ⟨xs, Ba, Bb, Bo, Bc⟩, La, Lb, Lo, Lc, m⟩ := h
  dsimp only at hv h3 ⊢
  refine enterF (M := M) Tryd.func36 rfl rfl rfl rfl hM ?_
  by_cases h1 : k = 1
  · rw [okH_1 h1]
    subst h1
    dsimp only
    by_cases hc : xs.length = 0 ∧ m = 0
    · rw [decide_eq_true hc]
      repeat' first
        | apply cw_seq
        | (refine cw_region_id 0 ?_; (apply ol_val; rfl; first | (apply s_boxN; rfl; intro bk2) | (apply s_box1; rfl; rfl; intro bk2)); (apply ol_as; rfl; rfl); (apply ol_nil))
        | (refine cw_region_id 1 ?_; (apply ol_fa; rfl; rfl; exact fd_25_0; exact qZ); (apply ol_ld; rfl; rfl; rfl; exact qP); (apply ol_nil))
        | (refine cw_region_id 2 ?_; (apply ol_val; rfl; apply stp_cmp; apply s_eql; rfl; rfl; all_goals (intro hc9; try (exfalso; (first | exact hc9 rfl | omega)))); all_goals (apply ol_as; rfl; rfl); all_goals (apply ol_nil))
        | (refine cw_region_id 3 ?_; (apply ol_fa; rfl; rfl; exact fd_25_2; exact qZ); (apply ol_ld; rfl; rfl; rfl; exact qP); (apply ol_val; rfl; apply stp_pur; apply s_len; rfl; exact el_22); (apply ol_val; rfl; apply stp_cmp; apply s_eql; rfl; rfl; all_goals (intro hc13; try (exfalso; (first | exact hc13 rfl | omega)))); all_goals (apply ol_mv; rfl; rfl); all_goals (first | (apply ol_gskip; rfl; rfl; exact qA; rfl) | (apply ol_gval; rfl; rfl; rfl; exact qA; apply stp_pur; apply s_fieldAddr'; rfl; exact fd_25_3; exact qZ)); all_goals (first | (apply ol_gskip; rfl; rfl; exact qA; rfl) | (apply ol_gval; rfl; rfl; rfl; exact qA; apply stp_pur; apply s_load1; rfl; rfl; exact qP)); all_goals (first | (apply ol_gskip; rfl; rfl; exact qA; rfl) | (apply ol_gval; rfl; rfl; rfl; exact qA; apply stp_pur; apply s_len; rfl; exact el_23)); all_goals (first | (apply ol_gskip; rfl; rfl; exact qA; rfl) | (apply ol_gval; rfl; rfl; rfl; exact qA; apply stp_cmp; apply s_eql; rfl; rfl; all_goals (intro hc18; try (exfalso; (first | exact hc18 rfl | omega))))); all_goals (apply ol_val; rfl; apply stp_pur; first | (apply s_pick_t; rfl; exact qA; rfl) | (apply s_pick_f; rfl; exact qA; rfl)); all_goals (apply ol_as; rfl; rfl); all_goals (apply ol_nil))
        | (apply cw_cond_true; rfl; exact qA)
        | (apply cw_cond_false; rfl; exact qA)
        | apply cw_skip
        | apply cw_ret
        | apply cw_block
        | apply cw_exit
      all_goals (refine ends [] (RVal.tmp rfl RVal.nil) Pick.nil ?_; rfl)
    · rw [decide_eq_false hc]
      repeat' first
        | apply cw_seq
        | (refine cw_region_id 0 ?_; (apply ol_val; rfl; first | (apply s_boxN; rfl; intro bk2) | (apply s_box1; rfl; rfl; intro bk2)); (apply ol_as; rfl; rfl); (apply ol_nil))
        | (refine cw_region_id 1 ?_; (apply ol_fa; rfl; rfl; exact fd_25_0; exact qZ); (apply ol_ld; rfl; rfl; rfl; exact qP); (apply ol_nil))
        | (refine cw_region_id 2 ?_; (apply ol_val; rfl; apply stp_cmp; apply s_eql; rfl; rfl; all_goals (intro hc9; try (exfalso; (first | exact hc9 rfl | omega)))); all_goals (apply ol_as; rfl; rfl); all_goals (apply ol_nil))
        | (refine cw_region_id 3 ?_; (apply ol_fa; rfl; rfl; exact fd_25_2; exact qZ); (apply ol_ld; rfl; rfl; rfl; exact qP); (apply ol_val; rfl; apply stp_pur; apply s_len; rfl; exact el_22); (apply ol_val; rfl; apply stp_cmp; apply s_eql; rfl; rfl; all_goals (intro hc13; try (exfalso; (first | exact hc13 rfl | omega)))); all_goals (apply ol_mv; rfl; rfl); all_goals (first | (apply ol_gskip; rfl; rfl; exact qA; rfl) | (apply ol_gval; rfl; rfl; rfl; exact qA; apply stp_pur; apply s_fieldAddr'; rfl; exact fd_25_3; exact qZ)); all_goals (first | (apply ol_gskip; rfl; rfl; exact qA; rfl) | (apply ol_gval; rfl; rfl; rfl; exact qA; apply stp_pur; apply s_load1; rfl; rfl; exact qP)); all_goals (first | (apply ol_gskip; rfl; rfl; exact qA; rfl) | (apply ol_gval; rfl; rfl; rfl; exact qA; apply stp_pur; apply s_len; rfl; exact el_23)); all_goals (first | (apply ol_gskip; rfl; rfl; exact qA; rfl) | (apply ol_gval; rfl; rfl; rfl; exact qA; apply stp_cmp; apply s_eql; rfl; rfl; all_goals (intro hc18; try (exfalso; (first | exact hc18 rfl | omega))))); all_goals (apply ol_val; rfl; apply stp_pur; first | (apply s_pick_t; rfl; exact qA; rfl) | (apply s_pick_f; rfl; exact qA; rfl)); all_goals (apply ol_as; rfl; rfl); all_goals (apply ol_nil))
        | (apply cw_cond_true; rfl; exact qA)
        | (apply cw_cond_false; rfl; exact qA)
        | apply cw_skip
        | apply cw_ret
        | apply cw_block
        | apply cw_exit
      all_goals (refine ends [] (RVal.tmp rfl RVal.nil) Pick.nil ?_; rfl)
  · by_cases h2 : k = 2
    · rw [okH_2 h2]
      subst h2
      dsimp only
      by_cases hc : n = 0 ∧ m = 0
      · rw [decide_eq_true hc]
        repeat' first
          | apply cw_seq
          | (refine cw_region_id 0 ?_; (apply ol_val; rfl; first | (apply s_boxN; rfl; intro bk2) | (apply s_box1; rfl; rfl; intro bk2)); (apply ol_as; rfl; rfl); (apply ol_nil))
          | (refine cw_region_id 1 ?_; (apply ol_fa; rfl; rfl; exact fd_25_0; exact qZ); (apply ol_ld; rfl; rfl; rfl; exact qP); (apply ol_nil))
          | (refine cw_region_id 2 ?_; (apply ol_val; rfl; apply stp_cmp; apply s_eql; rfl; rfl; all_goals (intro hc9; try (exfalso; (first | exact hc9 rfl | omega)))); all_goals (apply ol_as; rfl; rfl); all_goals (apply ol_nil))
          | (refine cw_region_id 4 ?_; (apply ol_val; rfl; apply stp_cmp; apply s_eql; rfl; rfl; all_goals (intro hc21; try (exfalso; (first | exact hc21 rfl | omega)))); all_goals (apply ol_as; rfl; rfl); all_goals (apply ol_nil))
          | (refine cw_region_id 5 ?_; (apply ol_fa; rfl; rfl; exact fd_25_1; exact qZ); (apply ol_ld; rfl; rfl; rfl; exact qP); (apply ol_val; rfl; apply stp_cmp; apply s_eql; rfl; rfl; all_goals (intro hc24; try (exfalso; (first | exact hc24 rfl | omega)))); all_goals (apply ol_mv; rfl; rfl); all_goals (first | (apply ol_gskip; rfl; rfl; exact qA; rfl) | (apply ol_gval; rfl; rfl; rfl; exact qA; apply stp_pur; apply s_fieldAddr'; rfl; exact fd_25_3; exact qZ)); all_goals (first | (apply ol_gskip; rfl; rfl; exact qA; rfl) | (apply ol_gval; rfl; rfl; rfl; exact qA; apply stp_pur; apply s_load1; rfl; rfl; exact qP)); all_goals (first | (apply ol_gskip; rfl; rfl; exact qA; rfl) | (apply ol_gval; rfl; rfl; rfl; exact qA; apply stp_pur; apply s_len; rfl; exact el_23)); all_goals (first | (apply ol_gskip; rfl; rfl; exact qA; rfl) | (apply ol_gval; rfl; rfl; rfl; exact qA; apply stp_cmp; apply s_eql; rfl; rfl; all_goals (intro hc29; try (exfalso; (first | exact hc29 rfl | omega))))); all_goals (apply ol_val; rfl; apply stp_pur; first | (apply s_pick_t; rfl; exact qA; rfl) | (apply s_pick_f; rfl; exact qA; rfl)); all_goals (apply ol_as; rfl; rfl); all_goals (apply ol_nil))
          | (apply cw_cond_true; rfl; exact qA)
          | (apply cw_cond_false; rfl; exact qA)
          | apply cw_skip
          | apply cw_ret
          | apply cw_block
          | apply cw_exit
        all_goals (refine ends [] (RVal.tmp rfl RVal.nil) Pick.nil ?_; rfl)
      · rw [decide_eq_false hc]
        repeat' first
          | apply cw_seq
          | (refine cw_region_id 0 ?_; (apply ol_val; rfl; first | (apply s_boxN; rfl; intro bk2) | (apply s_box1; rfl; rfl; intro bk2)); (apply ol_as; rfl; rfl); (apply ol_nil))
          | (refine cw_region_id 1 ?_; (apply ol_fa; rfl; rfl; exact fd_25_0; exact qZ); (apply ol_ld; rfl; rfl; rfl; exact qP); (apply ol_nil))
          | (refine cw_region_id 2 ?_; (apply ol_val; rfl; apply stp_cmp; apply s_eql; rfl; rfl; all_goals (intro hc9; try (exfalso; (first | exact hc9 rfl | omega)))); all_goals (apply ol_as; rfl; rfl); all_goals (apply ol_nil))
          | (refine cw_region_id 4 ?_; (apply ol_val; rfl; apply stp_cmp; apply s_eql; rfl; rfl; all_goals (intro hc21; try (exfalso; (first | exact hc21 rfl | omega)))); all_goals (apply ol_as; rfl; rfl); all_goals (apply ol_nil))
          | (refine cw_region_id 5 ?_; (apply ol_fa; rfl; rfl; exact fd_25_1; exact qZ); (apply ol_ld; rfl; rfl; rfl; exact qP); (apply ol_val; rfl; apply stp_cmp; apply s_eql; rfl; rfl; all_goals (intro hc24; try (exfalso; (first | exact hc24 rfl | omega)))); all_goals (apply ol_mv; rfl; rfl); all_goals (first | (apply ol_gskip; rfl; rfl; exact qA; rfl) | (apply ol_gval; rfl; rfl; rfl; exact qA; apply stp_pur; apply s_fieldAddr'; rfl; exact fd_25_3; exact qZ)); all_goals (first | (apply ol_gskip; rfl; rfl; exact qA; rfl) | (apply ol_gval; rfl; rfl; rfl; exact qA; apply stp_pur; apply s_load1; rfl; rfl; exact qP)); all_goals (first | (apply ol_gskip; rfl; rfl; exact qA; rfl) | (apply ol_gval; rfl; rfl; rfl; exact qA; apply stp_pur; apply s_len; rfl; exact el_23)); all_goals (first | (apply ol_gskip; rfl; rfl; exact qA; rfl) | (apply ol_gval; rfl; rfl; rfl; exact qA; apply stp_cmp; apply s_eql; rfl; rfl; all_goals (intro hc29; try (exfalso; (first | exact hc29 rfl | omega))))); all_goals (apply ol_val; rfl; apply stp_pur; first | (apply s_pick_t; rfl; exact qA; rfl) | (apply s_pick_f; rfl; exact qA; rfl)); all_goals (apply ol_as; rfl; rfl); all_goals (apply ol_nil))
          | (apply cw_cond_true; rfl; exact qA)
          | (apply cw_cond_false; rfl; exact qA)
          | apply cw_skip
          | apply cw_ret
          | apply cw_block
          | apply cw_exit
        all_goals (refine ends [] (RVal.tmp rfl RVal.nil) Pick.nil ?_; rfl)
    · rw [okH_0 h1 h2]
      repeat' first
        | apply cw_seq
        | (refine cw_region_id 0 ?_; (apply ol_val; rfl; first | (apply s_boxN; rfl; intro bk2) | (apply s_box1; rfl; rfl; intro bk2)); (apply ol_as; rfl; rfl); (apply ol_nil))
        | (refine cw_region_id 1 ?_; (apply ol_fa; rfl; rfl; exact fd_25_0; exact qZ); (apply ol_ld; rfl; rfl; rfl; exact qP); (apply ol_nil))
        | (refine cw_region_id 2 ?_; (apply ol_val; rfl; apply stp_cmp; apply s_eql; rfl; rfl; all_goals (intro hc9; try (exfalso; (first | exact hc9 rfl | omega)))); all_goals (apply ol_as; rfl; rfl); all_goals (apply ol_nil))
        | (refine cw_region_id 4 ?_; (apply ol_val; rfl; apply stp_cmp; apply s_eql; rfl; rfl; all_goals (intro hc21; try (exfalso; (first | exact hc21 rfl | omega)))); all_goals (apply ol_as; rfl; rfl); all_goals (apply ol_nil))
        | (refine cw_region_id 6 ?_; (apply ol_val; rfl; apply stp_cmp; apply s_eql; rfl; rfl; all_goals (intro hc32; try (exfalso; (first | exact hc32 rfl | omega)))); all_goals (apply ol_as; rfl; rfl); all_goals (apply ol_nil))
        | (refine cw_region_id 7 ?_; (apply ol_fa; rfl; rfl; exact fd_25_1; exact qZ); (apply ol_ld; rfl; rfl; rfl; exact qP); (apply ol_val; rfl; apply stp_cmp; apply s_neq; rfl; rfl; all_goals (intro hc35; try (exfalso; (first | exact hc35 rfl | omega)))); all_goals (apply ol_mv; rfl; rfl); all_goals (first | (apply ol_gskip; rfl; rfl; exact qA; rfl) | (apply ol_gval; rfl; rfl; rfl; exact qA; apply stp_pur; apply s_fieldAddr'; rfl; exact fd_25_2; exact qZ)); all_goals (first | (apply ol_gskip; rfl; rfl; exact qA; rfl) | (apply ol_gval; rfl; rfl; rfl; exact qA; apply stp_pur; apply s_load1; rfl; rfl; exact qP)); all_goals (first | (apply ol_gskip; rfl; rfl; exact qA; rfl) | (apply ol_gval; rfl; rfl; rfl; exact qA; apply stp_pur; apply s_len; rfl; exact el_22)); all_goals (first | (apply ol_gskip; rfl; rfl; exact qA; rfl) | (apply ol_gval; rfl; rfl; rfl; exact qA; apply stp_cmp; apply s_neq; rfl; rfl; all_goals (intro hc40; try (exfalso; (first | exact hc40 rfl | omega))))); all_goals (apply ol_val; rfl; apply stp_pur; first | (apply s_pick_t; rfl; exact qA; rfl) | (apply s_pick_f; rfl; exact qA; rfl)); all_goals (apply ol_mv; rfl; rfl); all_goals (first | (apply ol_gskip; rfl; rfl; exact qA; rfl) | (apply ol_gval; rfl; rfl; rfl; exact qA; apply stp_pur; apply s_fieldAddr'; rfl; exact fd_25_3; exact qZ)); all_goals (first | (apply ol_gskip; rfl; rfl; exact qA; rfl) | (apply ol_gval; rfl; rfl; rfl; exact qA; apply stp_pur; apply s_load1; rfl; rfl; exact qP)); all_goals (first | (apply ol_gskip; rfl; rfl; exact qA; rfl) | (apply ol_gval; rfl; rfl; rfl; exact qA; apply stp_pur; apply s_len; rfl; exact el_23)); all_goals (first | (apply ol_gskip; rfl; rfl; exact qA; rfl) | (apply ol_gval; rfl; rfl; rfl; exact qA; apply stp_cmp; apply s_gtr; rfl; rfl; all_goals (intro hc46; try (exfalso; (first | exact hc46 rfl | omega))))); all_goals (apply ol_val; rfl; apply stp_pur; first | (apply s_pick_t; rfl; exact qA; rfl) | (apply s_pick_f; rfl; exact qA; rfl)); all_goals (apply ol_mv; rfl; rfl); all_goals (first | (apply ol_gskip; rfl; rfl; exact qA; rfl) | (apply ol_gval; rfl; rfl; rfl; exact qA; apply stp_pur; apply s_move; rfl)); all_goals (first | (apply ol_gskip; rfl; rfl; exact qA; rfl) | (apply ol_gval; rfl; rfl; rfl; exact qA; apply stp_cmp; apply s_eql; rfl; rfl; all_goals (intro hc50; try (exfalso; (first | exact hc50 rfl | omega))))); all_goals (apply ol_val; rfl; apply stp_pur; first | (apply s_pick_t; rfl; exact qA; rfl) | (apply s_pick_f; rfl; exact qA; rfl)); all_goals (apply ol_nil))
        | (refine cw_region_id 8 ?_; (apply ol_as; rfl; rfl); (apply ol_nil))
        | (refine cw_region_id 15 ?_; (apply ol_as; rfl; rfl); (apply ol_nil))
        | (apply cw_cond_true; rfl; exact qA)
        | (apply cw_cond_false; rfl; exact qA)
        | apply cw_skip
        | apply cw_ret
        | apply cw_block
        | apply cw_exit
      all_goals (refine ends [] (RVal.tmp rfl RVal.nil) Pick.nil ?_; rfl)
theorem rvalid_spec : ∀ (d : Nat), d ≤ 8 → ∀ {M : View} {w : World}, View.le M (View.of w) → ∀ {x : It d}, ItV M d x →
    FnC Tryd.prog 36 [.agg x.enc.toArray, .int .i64 (8 - (d : Int))] w (fun v _ => v = .bool (okI d x)) := by
  intro d
  induction d with
  | zero =>
    intro hd M w hM x hx
    rw [okI_leaf (.inr rfl)]
    exact rvalid_leaf hM hd hx.head (.inr rfl)
  | succ d ih =>
    intro hd M w hM x hx
    by_cases h3 : x.hd.k = 3
    · obtain ⟨h, L⟩ := x
      obtain ⟨hv, hl, sL, hL⟩ := hx
      have h3' : h.k = 3 := h3
      have e : okI (d + 1) (h, L) = (decide (h.n = 0 ∧ h.B.xs.length = 0 ∧ h.m ≤ 1000) && L.all (okI d)) := by
        show (if h.k = 3 then decide (h.n = 0 ∧ h.B.xs.length = 0 ∧ h.m ≤ 1000) && L.all (okI d) else okH h) = _
        rw [if_pos h3']
      rw [e]
      have hxe : It.enc (d := d + 1) (h, L) = [.int .i64 h.k, .int .i64 h.n, .slice h.B.a h.B.xs.length h.B.c, .slice h.La h.m h.Lc] := rfl
      rw [hxe]
      clear hxe e h3
      obtain ⟨k, n, ⟨xs, Ba, Bb, Bo, Bc⟩, La, Lb, Lo, Lc, m⟩ := h
      dsimp only at hv hl sL h3' ⊢
      subst h3'
      have hm4 := hv.2.2.2
      dsimp only at hm4
      have hd8 : (8 - ((d + 1 : Nat) : Int)) + 1 = 8 - ((d : Nat) : Int) := by omega
      generalize hdd : (8 - ((d + 1 : Nat) : Int)) = dd at *
      refine enterF (M := M) Tryd.func36 rfl rfl rfl rfl hM ?_
      by_cases hc : n = 0 ∧ xs.length = 0 ∧ m ≤ 1000
      · rw [decide_eq_true hc, Bool.true_and]
        repeat' first
          | apply cw_seq
          | (refine cw_region_id 0 ?_; (apply ol_val; rfl; first | (apply s_boxN; rfl; intro bk2) | (apply s_box1; rfl; rfl; intro bk2)); (apply ol_as; rfl; rfl); (apply ol_nil))
          | (refine cw_region_id 1 ?_; (apply ol_fa; rfl; rfl; exact fd_25_0; exact qZ); (apply ol_ld; rfl; rfl; rfl; exact qP); (apply ol_nil))
          | (refine cw_region_id 2 ?_; (apply ol_val; rfl; apply stp_cmp; apply s_eql; rfl; rfl; all_goals (intro hc9; try (exfalso; (first | exact hc9 rfl | omega)))); all_goals (apply ol_as; rfl; rfl); all_goals (apply ol_nil))
          | (refine cw_region_id 4 ?_; (apply ol_val; rfl; apply stp_cmp; apply s_eql; rfl; rfl; all_goals (intro hc21; try (exfalso; (first | exact hc21 rfl | omega)))); all_goals (apply ol_as; rfl; rfl); all_goals (apply ol_nil))
          | (refine cw_region_id 6 ?_; (apply ol_val; rfl; apply stp_cmp; apply s_eql; rfl; rfl; all_goals (intro hc32; try (exfalso; (first | exact hc32 rfl | omega)))); all_goals (apply ol_as; rfl; rfl); all_goals (apply ol_nil))
          | (refine cw_region_id 7 ?_; (apply ol_fa; rfl; rfl; exact fd_25_1; exact qZ); (apply ol_ld; rfl; rfl; rfl; exact qP); (apply ol_val; rfl; apply stp_cmp; apply s_neq; rfl; rfl; all_goals (intro hc35; try (exfalso; (first | exact hc35 rfl | omega)))); all_goals (apply ol_mv; rfl; rfl); all_goals (first | (apply ol_gskip; rfl; rfl; exact qA; rfl) | (apply ol_gval; rfl; rfl; rfl; exact qA; apply stp_pur; apply s_fieldAddr'; rfl; exact fd_25_2; exact qZ)); all_goals (first | (apply ol_gskip; rfl; rfl; exact qA; rfl) | (apply ol_gval; rfl; rfl; rfl; exact qA; apply stp_pur; apply s_load1; rfl; rfl; exact qP)); all_goals (first | (apply ol_gskip; rfl; rfl; exact qA; rfl) | (apply ol_gval; rfl; rfl; rfl; exact qA; apply stp_pur; apply s_len; rfl; exact el_22)); all_goals (first | (apply ol_gskip; rfl; rfl; exact qA; rfl) | (apply ol_gval; rfl; rfl; rfl; exact qA; apply stp_cmp; apply s_neq; rfl; rfl; all_goals (intro hc40; try (exfalso; (first | exact hc40 rfl | omega))))); all_goals (apply ol_val; rfl; apply stp_pur; first | (apply s_pick_t; rfl; exact qA; rfl) | (apply s_pick_f; rfl; exact qA; rfl)); all_goals (apply ol_mv; rfl; rfl); all_goals (first | (apply ol_gskip; rfl; rfl; exact qA; rfl) | (apply ol_gval; rfl; rfl; rfl; exact qA; apply stp_pur; apply s_fieldAddr'; rfl; exact fd_25_3; exact qZ)); all_goals (first | (apply ol_gskip; rfl; rfl; exact qA; rfl) | (apply ol_gval; rfl; rfl; rfl; exact qA; apply stp_pur; apply s_load1; rfl; rfl; exact qP)); all_goals (first | (apply ol_gskip; rfl; rfl; exact qA; rfl) | (apply ol_gval; rfl; rfl; rfl; exact qA; apply stp_pur; apply s_len; rfl; exact el_23)); all_goals (first | (apply ol_gskip; rfl; rfl; exact qA; rfl) | (apply ol_gval; rfl; rfl; rfl; exact qA; apply stp_cmp; apply s_gtr; rfl; rfl; all_goals (intro hc46; try (exfalso; (first | exact hc46 rfl | omega))))); all_goals (apply ol_val; rfl; apply stp_pur; first | (apply s_pick_t; rfl; exact qA; rfl) | (apply s_pick_f; rfl; exact qA; rfl)); all_goals (apply ol_mv; rfl; rfl); all_goals (first | (apply ol_gskip; rfl; rfl; exact qA; rfl) | (apply ol_gval; rfl; rfl; rfl; exact qA; apply stp_pur; apply s_move; rfl)); all_goals (first | (apply ol_gskip; rfl; rfl; exact qA; rfl) | (apply ol_gval; rfl; rfl; rfl; exact qA; apply stp_cmp; apply s_eql; rfl; rfl; all_goals (intro hc50; try (exfalso; (first | exact hc50 rfl | omega))))); all_goals (apply ol_val; rfl; apply stp_pur; first | (apply s_pick_t; rfl; exact qA; rfl) | (apply s_pick_f; rfl; exact qA; rfl)); all_goals (apply ol_nil))
          | (refine cw_region_id 9 ?_; (apply ol_as; rfl; rfl); (apply ol_nil))
          | (apply cw_cond_true; rfl; exact qA)
          | (apply cw_cond_false; rfl; exact qA)
          | apply cw_skip
          | apply cw_ret
          | apply cw_block
          | apply cw_exit
        refine cw_loopK (σ := Nat) [1, 2] (by (repeat (first | exact Keep.nil | (apply Keep.cons; rfl)))) (fun i => [(5, .int .i64 i)]) (fun _ => M) (fun _ => [⟨some bk2, [.int .i64 3, .int .i64 n, .slice Ba xs.length Bc, .slice La m Lc], 25⟩]) (fun i => i ≤ m ∧ (L.take i).all (okI d) = true) (fun i => m - i) 0 (by (repeat (first | exact trivial | refine And.intro rfl ?_))) (View.le.refl _) (by exact qK) ⟨Nat.zero_le _, rfl⟩ ?_
        rintro i ⟨hi, hall⟩
        by_cases him : i < m
        · have hil : i < L.length := by omega
          have hci := sL.cells i hil
          have ihx := fun (w' : World) (h : View.le M (View.of w')) => ih (by omega) h (hL _ (List.getElem_mem hil))
          have htk := List.take_succ_eq_append_getElem hil
          rw [← hd8] at ihx
          cases hr : okI d (L[i]'hil) with
          | true =>
            rw [hr] at ihx
            have hnext : (L.take (i + 1)).all (okI d) = true := by rw [htk, List.all_append, hall]; simp [hr]
            clear hr htk hL
            generalize L[i]'hil = y at *
            unfold It.enc at hci ihx
            repeat' first
              | apply cw_seq
              | (refine cw_region_id 10 ?_; (apply ol_mv; rfl; rfl); (apply ol_fa; rfl; rfl; exact fd_25_3; exact qZ); (apply ol_ld; rfl; rfl; rfl; (first | exact qP | (apply RdN.view; exact hci))); (apply ol_val; rfl; apply stp_pur; apply s_len; rfl; exact el_23); (apply ol_val; rfl; apply stp_cmp; apply s_lss; rfl; rfl; all_goals (intro hc56; try (exfalso; (first | exact hc56 rfl | omega)))); all_goals (apply ol_nil))
              | (refine cw_region_id 12 ?_; (apply ol_fa; rfl; rfl; exact fd_25_3; exact qZ); (apply ol_ld; rfl; rfl; rfl; (first | exact qP | (apply RdN.view; exact hci))); (apply ol_mv; rfl; rfl); (apply ol_val; rfl; apply stp_pur; first | (apply s_indexK; rfl; rfl; exact el_23; exact sz_25; (first | rfl | exact sL.at_ (by omega)); omega) | (apply s_indexO; rfl; rfl; exact el_23; exact sz_25; (first | rfl | exact sL.at_ (by omega)); omega)); (apply ol_ldN; rfl; rfl; rfl; exact sz_25; (first | exact qQ | (apply RdN.view; exact hci))); (apply ol_mv; rfl; rfl); (apply ol_val; rfl; apply stp_pur; apply s_add64; rfl; rfl; omega); (apply ol_val; rfl; apply s_callv; rfl; exact gf_36; (intro w' hw'; exact ihx w' hw'.le)); (apply ol_val; rfl; apply stp_pur; first | (apply s_not_t; rfl; exact qA) | (apply s_not_f; rfl; exact qA) | (apply s_not; rfl)); (apply ol_nil))
              | (refine cw_region_id 11 ?_; (apply ol_mv; rfl; rfl); (apply ol_val; rfl; apply stp_pur; apply s_add64; rfl; rfl; omega); (apply ol_as; rfl; rfl); (apply ol_nil))
              | (apply cw_cond_true; rfl; exact qA)
              | (apply cw_cond_false; rfl; exact qA)
              | apply cw_skip
              | apply cw_ret
              | apply cw_block
              | apply cw_exit
            exact ⟨i + 1, ⟨by (repeat (first | exact trivial | refine And.intro rfl ?_)), View.le.refl _, by exact qK, ⟨him, hnext⟩, by omega⟩⟩
          | false =>
            rw [hr] at ihx
            have hf : L.all (okI d) = false := by
              rw [List.all_eq_false]
              exact ⟨_, List.getElem_mem hil, by simp [hr]⟩
            rw [hf]
            clear hr htk hL
            generalize L[i]'hil = y at *
            unfold It.enc at hci ihx
            repeat' first
              | apply cw_seq
              | (refine cw_region_id 10 ?_; (apply ol_mv; rfl; rfl); (apply ol_fa; rfl; rfl; exact fd_25_3; exact qZ); (apply ol_ld; rfl; rfl; rfl; (first | exact qP | (apply RdN.view; exact hci))); (apply ol_val; rfl; apply stp_pur; apply s_len; rfl; exact el_23); (apply ol_val; rfl; apply stp_cmp; apply s_lss; rfl; rfl; all_goals (intro hc56; try (exfalso; (first | exact hc56 rfl | omega)))); all_goals (apply ol_nil))
              | (refine cw_region_id 12 ?_; (apply ol_fa; rfl; rfl; exact fd_25_3; exact qZ); (apply ol_ld; rfl; rfl; rfl; (first | exact qP | (apply RdN.view; exact hci))); (apply ol_mv; rfl; rfl); (apply ol_val; rfl; apply stp_pur; first | (apply s_indexK; rfl; rfl; exact el_23; exact sz_25; (first | rfl | exact sL.at_ (by omega)); omega) | (apply s_indexO; rfl; rfl; exact el_23; exact sz_25; (first | rfl | exact sL.at_ (by omega)); omega)); (apply ol_ldN; rfl; rfl; rfl; exact sz_25; (first | exact qQ | (apply RdN.view; exact hci))); (apply ol_mv; rfl; rfl); (apply ol_val; rfl; apply stp_pur; apply s_add64; rfl; rfl; omega); (apply ol_val; rfl; apply s_callv; rfl; exact gf_36; (intro w' hw'; exact ihx w' hw'.le)); (apply ol_val; rfl; apply stp_pur; first | (apply s_not_t; rfl; exact qA) | (apply s_not_f; rfl; exact qA) | (apply s_not; rfl)); (apply ol_nil))
              | (refine cw_region_id 13 ?_; (apply ol_as; rfl; rfl); (apply ol_nil))
              | (apply cw_cond_true; rfl; exact qA)
              | (apply cw_cond_false; rfl; exact qA)
              | apply cw_skip
              | apply cw_ret
              | apply cw_block
              | apply cw_exit
            refine ends [] (RVal.tmp rfl RVal.nil) Pick.nil ?_
            rfl
        · have hf : L.all (okI d) = true := by rw [List.take_of_length_le (by omega)] at hall; exact hall
          rw [hf]
          repeat' first
            | apply cw_seq
            | (refine cw_region_id 10 ?_; (apply ol_mv; rfl; rfl); (apply ol_fa; rfl; rfl; exact fd_25_3; exact qZ); (apply ol_ld; rfl; rfl; rfl; exact qP); (apply ol_val; rfl; apply stp_pur; apply s_len; rfl; exact el_23); (apply ol_val; rfl; apply stp_cmp; apply s_lss; rfl; rfl; all_goals (intro hc56; try (exfalso; (first | exact hc56 rfl | omega)))); all_goals (apply ol_nil))
            | (refine cw_region_id 14 ?_; (apply ol_as; rfl; rfl); (apply ol_nil))
            | (apply cw_cond_true; rfl; exact qA)
            | (apply cw_cond_false; rfl; exact qA)
            | apply cw_skip
            | apply cw_ret
            | apply cw_block
            | apply cw_exit
          refine ends [] (RVal.tmp rfl RVal.nil) Pick.nil ?_
          rfl
      · rw [decide_eq_false hc, Bool.false_and]
        repeat' first
          | apply cw_seq
          | (refine cw_region_id 0 ?_; (apply ol_val; rfl; first | (apply s_boxN; rfl; intro bk2) | (apply s_box1; rfl; rfl; intro bk2)); (apply ol_as; rfl; rfl); (apply ol_nil))
          | (refine cw_region_id 1 ?_; (apply ol_fa; rfl; rfl; exact fd_25_0; exact qZ); (apply ol_ld; rfl; rfl; rfl; exact qP); (apply ol_nil))
          | (refine cw_region_id 2 ?_; (apply ol_val; rfl; apply stp_cmp; apply s_eql; rfl; rfl; all_goals (intro hc9; try (exfalso; (first | exact hc9 rfl | omega)))); all_goals (apply ol_as; rfl; rfl); all_goals (apply ol_nil))
          | (refine cw_region_id 4 ?_; (apply ol_val; rfl; apply stp_cmp; apply s_eql; rfl; rfl; all_goals (intro hc21; try (exfalso; (first | exact hc21 rfl | omega)))); all_goals (apply ol_as; rfl; rfl); all_goals (apply ol_nil))
          | (refine cw_region_id 6 ?_; (apply ol_val; rfl; apply stp_cmp; apply s_eql; rfl; rfl; all_goals (intro hc32; try (exfalso; (first | exact hc32 rfl | omega)))); all_goals (apply ol_as; rfl; rfl); all_goals (apply ol_nil))
          | (refine cw_region_id 7 ?_; (apply ol_fa; rfl; rfl; exact fd_25_1; exact qZ); (apply ol_ld; rfl; rfl; rfl; exact qP); (apply ol_val; rfl; apply stp_cmp; apply s_neq; rfl; rfl; all_goals (intro hc35; try (exfalso; (first | exact hc35 rfl | omega)))); all_goals (apply ol_mv; rfl; rfl); all_goals (first | (apply ol_gskip; rfl; rfl; exact qA; rfl) | (apply ol_gval; rfl; rfl; rfl; exact qA; apply stp_pur; apply s_fieldAddr'; rfl; exact fd_25_2; exact qZ)); all_goals (first | (apply ol_gskip; rfl; rfl; exact qA; rfl) | (apply ol_gval; rfl; rfl; rfl; exact qA; apply stp_pur; apply s_load1; rfl; rfl; exact qP)); all_goals (first | (apply ol_gskip; rfl; rfl; exact qA; rfl) | (apply ol_gval; rfl; rfl; rfl; exact qA; apply stp_pur; apply s_len; rfl; exact el_22)); all_goals (first | (apply ol_gskip; rfl; rfl; exact qA; rfl) | (apply ol_gval; rfl; rfl; rfl; exact qA; apply stp_cmp; apply s_neq; rfl; rfl; all_goals (intro hc40; try (exfalso; (first | exact hc40 rfl | omega))))); all_goals (apply ol_val; rfl; apply stp_pur; first | (apply s_pick_t; rfl; exact qA; rfl) | (apply s_pick_f; rfl; exact qA; rfl)); all_goals (apply ol_mv; rfl; rfl); all_goals (first | (apply ol_gskip; rfl; rfl; exact qA; rfl) | (apply ol_gval; rfl; rfl; rfl; exact qA; apply stp_pur; apply s_fieldAddr'; rfl; exact fd_25_3; exact qZ)); all_goals (first | (apply ol_gskip; rfl; rfl; exact qA; rfl) | (apply ol_gval; rfl; rfl; rfl; exact qA; apply stp_pur; apply s_load1; rfl; rfl; exact qP)); all_goals (first | (apply ol_gskip; rfl; rfl; exact qA; rfl) | (apply ol_gval; rfl; rfl; rfl; exact qA; apply stp_pur; apply s_len; rfl; exact el_23)); all_goals (first | (apply ol_gskip; rfl; rfl; exact qA; rfl) | (apply ol_gval; rfl; rfl; rfl; exact qA; apply stp_cmp; apply s_gtr; rfl; rfl; all_goals (intro hc46; try (exfalso; (first | exact hc46 rfl | omega))))); all_goals (apply ol_val; rfl; apply stp_pur; first | (apply s_pick_t; rfl; exact qA; rfl) | (apply s_pick_f; rfl; exact qA; rfl)); all_goals (apply ol_mv; rfl; rfl); all_goals (first | (apply ol_gskip; rfl; rfl; exact qA; rfl) | (apply ol_gval; rfl; rfl; rfl; exact qA; apply stp_pur; apply s_move; rfl)); all_goals (first | (apply ol_gskip; rfl; rfl; exact qA; rfl) | (apply ol_gval; rfl; rfl; rfl; exact qA; apply stp_cmp; apply s_eql; rfl; rfl; all_goals (intro hc50; try (exfalso; (first | exact hc50 rfl | omega))))); all_goals (apply ol_val; rfl; apply stp_pur; first | (apply s_pick_t; rfl; exact qA; rfl) | (apply s_pick_f; rfl; exact qA; rfl)); all_goals (apply ol_nil))
          | (refine cw_region_id 8 ?_; (apply ol_as; rfl; rfl); (apply ol_nil))
          | (apply cw_cond_true; rfl; exact qA)
          | (apply cw_cond_false; rfl; exact qA)
          | apply cw_skip
          | apply cw_ret
          | apply cw_block
          | apply cw_exit
        all_goals (refine ends [] (RVal.tmp rfl RVal.nil) Pick.nil ?_; rfl)
    · rw [okI_leaf (.inl h3)]
      exact rvalid_leaf hM hd hx.head (.inl h3)
theorem rValid_spec {M : View} {w : World} (hM : View.le M (View.of w)) {x : It 8} (hx : ItV M 8 x) :
    FnC Tryd.prog 13 [.agg x.enc.toArray] w (fun v _ => v = .bool (okI 8 x)) := by
  have kw := fun (w' : World) (h : View.le M (View.of w')) => rvalid_spec 8 (Nat.le_refl _) h hx
  rw [show (8 : Int) - ((8 : Nat) : Int) = 0 by omega] at kw
  unfold It.enc at *
  generalize x.hd = h at *
  obtain ⟨k, n, ⟨xs, Ba, Bb, Bo, Bc⟩, La, Lb, Lo, Lc, m⟩ := h
  dsimp only at kw ⊢
  generalize okI 8 x = r at *
  refine enterF (M := M) Tryd.func13 rfl rfl rfl rfl hM ?_
  repeat' first
    | apply cw_seq
    | (refine cw_region_id 0 ?_; (apply ol_val; rfl; first | (apply s_boxN; rfl; intro bk1) | (apply s_box1; rfl; rfl; intro bk1)); (apply ol_as; rfl; rfl); (apply ol_nil))
    | (refine cw_region_id 1 ?_; (apply ol_ldN; rfl; rfl; rfl; exact sz_25; exact qQ); (apply ol_val; rfl; apply s_callv; rfl; exact gf_36; (intro w' hw'; exact kw w' hw'.le)); (apply ol_as; rfl; rfl); (apply ol_nil))
    | (apply cw_cond_true; rfl; exact qA)
    | (apply cw_cond_false; rfl; exact qA)
    | apply cw_skip
    | apply cw_ret
    | apply cw_block
    | apply cw_exit
  refine ends [] (RVal.tmp rfl RVal.nil) Pick.nil ?_
  rfl
end Go.Proofs.YtkkfgeekdaalmaaDoor
namespace Go.Proofs.YtkkfgeekdaalmaaDoor
set_option maxRecDepth 20000
set_option linter.unusedSimpArgs false
set_option linter.unusedVariables false
open Go Go.Fw
/-- The row in the middle of the reference's loop. -/
def bmid (s N i : Nat) : List Int := List.replicate (s - i) 0 ++ bI i N
theorem wrap8 (n : Nat) : IntKind.u8.wrap ((n : Nat) : Int) = ((n % 256 : Nat) : Int) := by rw [wrapU8]; exact (Int.natCast_emod n 256).symm
theorem shrB {N s j : Nat} (h : j < s) : ((N : Nat) : Int) / 2 ^ (8 * ((s : Int) - 1 - (j : Int))).toNat = ((N / 256 ^ (s - 1 - j) : Nat) : Int) := by
  have e : (8 * ((s : Int) - 1 - (j : Int))).toNat = 8 * (s - 1 - j) := by omega
  rw [e, ← pow8]
  simp
structure NSt where
  j : Nat
  r : Option Nat
  c : Nat
  sp : List Value
end Go.Proofs.YtkkfgeekdaalmaaDoor
namespace Go.Proofs.YtkkfgeekdaalmaaDoor
set_option maxRecDepth 20000
set_option linter.unusedSimpArgs false
set_option linter.unusedVariables false
open Go Go.Fw
attribute [local irreducible] CW OL OD FX Stp FnC FnV Ret bI bmid
set_option maxHeartbeats 800000
theorem number_step {ts : Array TypeId} {n : Nat} {wE : World} {mu : List Nat} {fm : FM} {M : View} {rest : List OB} {K : Value → View → List OB → Prop} {d : Option Nat} {ty : TypeId} {pos : String} {af : Array Edge} {g : Option (Nat × Bool)} {x y z : Operand} {r : Option Nat} {A : Option Addr} {cap m N size : Nat} {xs : List Int} {sp : List Value}
    (hx : ev fm x = some (.slice (base r A) m cap)) (hy : ev fm y = some (.int .u64 N)) (hz : ev fm z = some (.int .i64 size)) (so : SO r m cap (flat (eK .u8) xs) sp 1) (hm : m ≤ 1073741824) (hs : size ≤ 8)
    (hK : ∀ r' sp' cap', SO r' (m + size) cap' (flat (eK .u8) (xs ++ bI size N)) sp' 1 → K (.slice (base r' A) (m + size) cap') M (⟨r', flat (eK .u8) (xs ++ bI size N) ++ sp', 5⟩ :: rest)) :
    Stp ⟨Tryd.prog, n, wE, mu⟩ ⟨d, .call { callee := .value (.func 46), args := #[x, y, z], argTypes := ts }, ty, pos, af, g⟩ fm M (⟨r, flat (eK .u8) xs ++ sp, 5⟩ :: rest) K := by
  refine s_inline (xs := [x, y, z]) (vs := [.slice (base r A) m cap, .int .u64 N, .int .i64 size]) (by simp [evs, hx, hy, hz]) (by kernel_rfl) Tryd.func46 rfl rfl rfl rfl ?_
  repeat' first
    | apply cw_seq
    | (refine cw_region_id 0 ?_; (apply ol_as; rfl; rfl); (apply ol_nil))
    | (refine cw_region_id 1 ?_; (apply ol_mv; rfl; rfl); (apply ol_val; rfl; apply stp_pur; apply s_sub64; rfl; rfl; omega); (apply ol_as; rfl; rfl); (apply ol_nil))
    | (apply cw_cond_true; rfl; exact qA)
    | (apply cw_cond_false; rfl; exact qA)
    | apply cw_skip
    | apply cw_ret
    | apply cw_block
    | apply cw_exit
  refine cw_loopK (σ := NSt) [1] (by (repeat (first | exact Keep.nil | (apply Keep.cons; rfl)))) (fun s => [(0, .slice (base s.r A) (m + s.j) s.c), (7, .int .i64 ((size : Int) - 1 - (s.j : Int)))]) (fun _ => M) (fun s => ⟨s.r, flat (eK .u8) (xs ++ (bI size N).take s.j) ++ s.sp, 5⟩ :: rest) (fun s => s.j ≤ size ∧ SO s.r (m + s.j) s.c (flat (eK .u8) (xs ++ (bI size N).take s.j)) s.sp 1) (fun s => size - s.j) ⟨0, r, cap, sp⟩ (by dsimp only; rw [show (size : Int) - 1 - ((0 : Nat) : Int) = (size : Int) - 1 by omega]; (repeat (first | exact trivial | refine And.intro rfl ?_))) (View.le.refl _) (by dsimp only; rw [List.take_zero, List.append_nil]; exact qK) ⟨Nat.zero_le _, by dsimp only; rw [List.take_zero, List.append_nil]; exact so⟩ ?_
  rintro ⟨j, r1, c1, sp1⟩ ⟨hj, so1⟩
  dsimp only at hj so1
  dsimp only
  by_cases hjs : j < size
  · have htk := bI_take (N := N) hjs
    have hfl : flat (eK .u8) (xs ++ (bI size N).take (j + 1)) = flat (eK .u8) (xs ++ (bI size N).take j) ++ [.int .u8 ((N / 256 ^ (size - 1 - j) % 256 : Nat) : Int)] := by rw [htk, ← List.append_assoc, flat_append, flat_one]
    have hsr := shrB (N := N) hjs
    have hw := wrap8 (N / 256 ^ (size - 1 - j))
    generalize N / 256 ^ (size - 1 - j) = q at *
    generalize xs ++ (bI size N).take j = Y at *
    repeat' first
      | apply cw_seq
      | (refine cw_region_id 2 ?_; (apply ol_mv; rfl; rfl); (apply ol_val; rfl; apply stp_cmp; apply s_geq; rfl; rfl; all_goals (intro hc11; try (exfalso; (first | exact hc11 rfl | omega)))); all_goals (apply ol_nil))
      | (refine cw_region_id 4 ?_; (apply ol_mv; rfl; rfl); (apply ol_mv; rfl; rfl); (apply ol_mv; rfl; rfl); (apply ol_val; rfl; apply stp_pur; apply s_mul64; rfl; rfl; omega); (apply ol_val; rfl; apply stp_pur; apply s_shrE; rfl; rfl; (first | decide | omega | (simp [IntKind.bits]; omega) | (simp [IntKind.bits]; done)); exact hsr); (apply ol_val; rfl; apply stp_pur; first | (apply s_conv; rfl; rfl; exact ti_5; (focus (apply wrap_u8; omega))) | (apply s_conv; rfl; rfl; exact ti_5; exact hw) | (apply s_conv; rfl; rfl; exact ti_5; rfl)); (apply ol_val; rfl; apply s_buildSl; rfl; exact el_22; exact sz_5; exact zb_5; exact qN; rfl; rfl; (exact Nat.le_of_ble_eq_true rfl); exact qN; exact qR; intro bk20); (apply ol_val; rfl; first | (apply s_append_e; rfl; rfl; exact qN; exact el_22; exact sz_5; exact zb_5; rfl; exact by_5; (first | exact (fun _ => rfl)); (first | exact qQ); (first | rfl); exact qO; exact qO; intro rk21 sk21 ck21 ok21) | (apply s_append_r; rfl; rfl; exact qN; (first | rfl | exact (List.append_nil _).symm); exact el_22; exact sz_5; exact zb_5; rfl; exact by_5; (first | exact SO.nil _ | assumption | (exact ⟨by simp, by simp, Nat.le_refl _, by simp⟩)); (first | exact (fun _ => rfl)); (first | exact qQ); (first | rfl); exact qO; exact qO; intro rk21 sk21 ck21 ok21) | (apply s_append_b; rfl; rfl; exact qN; (first | rfl | exact (List.append_nil _).symm); exact el_22; exact sz_5; exact zb_5; rfl; exact by_5; (first | exact SO.nil _ | assumption | (exact ⟨by simp, by simp, Nat.le_refl _, by simp⟩)); (first | exact (fun _ => rfl)); (first | exact qQ); (first | rfl); exact qO; exact qO; intro rk21 sk21 ck21 ok21) | (apply s_append_n; rfl; rfl; exact qN; exact el_22; exact sz_5; exact zb_5; rfl; exact by_5; (first | exact (fun _ => rfl)); (first | exact qQ); (first | rfl); exact qO; exact qO; intro rk21 sk21 ck21 ok21)); (apply ol_as; rfl; rfl); (apply ol_nil))
      | (refine cw_region_id 3 ?_; (apply ol_mv; rfl; rfl); (apply ol_val; rfl; apply stp_pur; apply s_sub64; rfl; rfl; omega); (apply ol_as; rfl; rfl); (apply ol_nil))
      | (refine cw_region_id 5 ?_; (apply ol_mv; rfl; rfl); (apply ol_as; rfl; rfl); (apply ol_nil))
      | (apply cw_cond_true; rfl; exact qA)
      | (apply cw_cond_false; rfl; exact qA)
      | apply cw_skip
      | apply cw_ret
      | apply cw_block
      | apply cw_exit
    refine ⟨⟨j + 1, rk21, ck21, sk21⟩, ⟨?_, View.le.refl _, ?_, ⟨hjs, ?_⟩, by dsimp only; omega⟩⟩
    · dsimp only
      rw [show (size : Int) - 1 - ((j + 1 : Nat) : Int) = (size : Int) - 1 - (j : Int) - 1 by omega]
      (repeat (first | exact trivial | refine And.intro rfl ?_))
    · dsimp only
      rw [hfl]
      exact qK
    · dsimp only
      rw [hfl]
      exact ok21
  · obtain rfl : j = size := by omega
    have htk : (bI j N).take j = bI j N := List.take_of_length_le (by rw [bI_length]; exact Nat.le_refl _)
    rw [htk] at so1 ⊢
    repeat' first
      | apply cw_seq
      | (refine cw_region_id 2 ?_; (apply ol_mv; rfl; rfl); (apply ol_val; rfl; apply stp_cmp; apply s_geq; rfl; rfl; all_goals (intro hc11; try (exfalso; (first | exact hc11 rfl | omega)))); all_goals (apply ol_nil))
      | (refine cw_region_id 4 ?_; (apply ol_mv; rfl; rfl); (apply ol_mv; rfl; rfl); (apply ol_mv; rfl; rfl); (apply ol_val; rfl; apply stp_pur; apply s_mul64; rfl; rfl; omega); (apply ol_val; rfl; apply stp_pur; apply s_shr; rfl; rfl; (first | decide | omega | (simp [IntKind.bits]; omega) | (simp [IntKind.bits]; done))); (apply ol_val; rfl; apply stp_pur; first | (apply s_conv; rfl; rfl; exact ti_5; (focus (apply wrap_u8; omega))) | (apply s_conv; rfl; rfl; exact ti_5; rfl)); (apply ol_val; rfl; apply s_buildSl; rfl; exact el_22; exact sz_5; exact zb_5; exact qN; rfl; rfl; (exact Nat.le_of_ble_eq_true rfl); exact qN; exact qR; intro bk20); (apply ol_val; rfl; first | (apply s_append_e; rfl; rfl; exact qN; exact el_22; exact sz_5; exact zb_5; rfl; exact by_5; (first | exact (fun _ => rfl)); (first | exact qQ); (first | rfl); exact qO; exact qO; intro rk21 sk21 ck21 ok21) | (apply s_append_r; rfl; rfl; exact qN; (first | rfl | exact (List.append_nil _).symm); exact el_22; exact sz_5; exact zb_5; rfl; exact by_5; (first | exact SO.nil _ | assumption | (exact ⟨by simp, by simp, Nat.le_refl _, by simp⟩)); (first | exact (fun _ => rfl)); (first | exact qQ); (first | rfl); exact qO; exact qO; intro rk21 sk21 ck21 ok21) | (apply s_append_b; rfl; rfl; exact qN; (first | rfl | exact (List.append_nil _).symm); exact el_22; exact sz_5; exact zb_5; rfl; exact by_5; (first | exact SO.nil _ | assumption | (exact ⟨by simp, by simp, Nat.le_refl _, by simp⟩)); (first | exact (fun _ => rfl)); (first | exact qQ); (first | rfl); exact qO; exact qO; intro rk21 sk21 ck21 ok21) | (apply s_append_n; rfl; rfl; exact qN; exact el_22; exact sz_5; exact zb_5; rfl; exact by_5; (first | exact (fun _ => rfl)); (first | exact qQ); (first | rfl); exact qO; exact qO; intro rk21 sk21 ck21 ok21)); (apply ol_as; rfl; rfl); (apply ol_nil))
      | (refine cw_region_id 3 ?_; (apply ol_mv; rfl; rfl); (apply ol_val; rfl; apply stp_pur; apply s_sub64; rfl; rfl; omega); (apply ol_as; rfl; rfl); (apply ol_nil))
      | (refine cw_region_id 5 ?_; (apply ol_mv; rfl; rfl); (apply ol_as; rfl; rfl); (apply ol_nil))
      | (apply cw_cond_true; rfl; exact qA)
      | (apply cw_cond_false; rfl; exact qA)
      | apply cw_skip
      | apply cw_ret
      | apply cw_block
      | apply cw_exit
    exact endIS (RVal.tmp rfl RVal.nil) (List.Sublist.refl _) (hK r1 sp1 c1 so1)
end Go.Proofs.YtkkfgeekdaalmaaDoor
namespace Go.Proofs.YtkkfgeekdaalmaaDoor
set_option maxRecDepth 20000
set_option linter.unusedSimpArgs false
set_option linter.unusedVariables false
open Go Go.Fw
theorem _root_.Go.Fw.St.sep_ {wE : World} {mu : List Nat} {M : View} {own : List OB} {w : World} (hs : St wE mu M own w) {x : OB} (h : Has own x) : ∀ b, x.ref = some b → M b = none := fun b hb => (hs.sep _ h.mem b hb).1
theorem encI_leaf {d : Nat} {x : It d} (h3 : x.hd.k ≠ 3 ∨ d = 0) : encI d x = encH x.hd := by
  cases d with
  | zero => rfl
  | succ d =>
    have h : ¬ x.1.k = 3 := by rcases h3 with h | h; exact h; omega
    show (if x.1.k = 3 then _ else encH x.1) = _
    rw [if_neg h]
    rfl
/-- What is written behind some bytes: all, or too much. -/
def wrP (out e o : List Int) : Prop := (out.length + e.length ≤ 16384 → o = out ++ e) ∧ (16384 < out.length + e.length → 16384 < o.length)
theorem wrP.trans {a e1 b e2 c : List Int} (h : wrP a e1 b) (k : wrP b e2 c) : wrP a (e1 ++ e2) c := by
  refine ⟨fun hl => ?_, fun hl => ?_⟩
  · rw [List.length_append] at hl
    have hb := h.1 (by omega)
    subst hb
    rw [k.1 (by rw [List.length_append]; omega), List.append_assoc]
  · rw [List.length_append] at hl
    by_cases h1 : a.length + e1.length ≤ 16384
    · have hb := h.1 h1
      subst hb
      exact k.2 (by rw [List.length_append]; omega)
    · have := h.2 (by omega)
      exact k.2 (by omega)
theorem wrP.all (a e : List Int) : wrP a e (a ++ e) := ⟨fun _ => rfl, fun h => by rw [List.length_append]; exact h⟩
theorem wrP.long {a e : List Int} (h : 16384 < a.length) : wrP a e a := ⟨fun h2 => by omega, fun _ => h⟩
/-- The row that is handed back. -/
def WRA (A : Option Addr) (out e : List Int) (v : Value) (y : OB) : Prop :=
  ∃ r' cap' sp' o', wrP out e o' ∧ o'.length ≤ 140737488400000 ∧ v = .slice (base r' A) o'.length cap' ∧ y = ⟨r', flat (eK .u8) o' ++ sp', 5⟩ ∧ SO r' o'.length cap' (flat (eK .u8) o') sp' 1
theorem encH_1 {h : Hd} (e : h.k = 1) : encH h = [1] ++ bI 8 (u64 h.n) := by unfold encH; rw [if_pos e]; rfl
theorem encH_2 {h : Hd} (e : h.k = 2) : encH h = ([2] ++ bI 4 h.B.xs.length) ++ h.B.xs := by unfold encH; rw [if_neg (by omega)]; rfl
end Go.Proofs.YtkkfgeekdaalmaaDoor
namespace Go.Proofs.YtkkfgeekdaalmaaDoor
set_option maxRecDepth 20000
set_option linter.unusedSimpArgs false
set_option linter.unusedVariables false
open Go Go.Fw
attribute [local irreducible] CW OL OD FX Stp FnC FnV FnA Ret bI bmid
set_option maxHeartbeats 1600000
theorem write_long {M : View} {w : World} (hM : View.le M (View.of w)) {d : Nat} {x : It d} {r : Option Nat} {A : Option Addr} {cap n : Nat} {out : List Int} {sp : List Value} (hr : ∀ b, r = some b → M b = none) (ho : OB.ok ⟨r, flat (eK .u8) out ++ sp, 5⟩ w) (so : SO r n cap (flat (eK .u8) out) sp 1) (hn : out.length = n) (hn2 : n ≤ 140737488400000) (hl : 16384 < n) (e : List Int) :
    FnA Tryd.prog 35 [.slice (base r A) n cap, .agg x.enc.toArray] w ⟨r, flat (eK .u8) out ++ sp, 5⟩ (WRA A out e) := by
  unfold It.enc
  generalize x.hd = h at *
  obtain ⟨k, nn, ⟨xs, Ba, Bb, Bo, Bc⟩, La, Lb, Lo, Lc, m⟩ := h
  dsimp only
  refine enterA (M := M) Tryd.func35 rfl rfl rfl rfl hM ho hr ?_
  repeat' first
    | apply cw_seq
    | (refine cw_region_id 0 ?_; (apply ol_val; rfl; first | (apply s_boxN; rfl; intro bk3) | (apply s_box1; rfl; rfl; intro bk3)); (apply ol_as; rfl; rfl); (apply ol_nil))
    | (refine cw_region_id 1 ?_; (apply ol_mv; rfl; rfl); (apply ol_val; rfl; apply stp_pur; apply s_len; rfl; exact el_22); (apply ol_val; rfl; apply stp_cmp; apply s_gtr; rfl; rfl; all_goals (intro hc9; try (exfalso; (first | exact hc9 rfl | omega)))); all_goals (apply ol_nil))
    | (refine cw_region_id 2 ?_; (apply ol_mv; rfl; rfl); (apply ol_as; rfl; rfl); (apply ol_nil))
    | (apply cw_cond_true; rfl; exact qA)
    | (apply cw_cond_false; rfl; exact qA)
    | apply cw_skip
    | apply cw_ret
    | apply cw_block
    | apply cw_exit
  refine endsA ⟨r, flat (eK .u8) out ++ sp, 5⟩ (RVal.tmp rfl RVal.nil) (by exact qK) ?_
  exact ⟨r, cap, sp, out, wrP.long (by omega), by omega, by rw [hn]; rfl, rfl, by rw [hn]; exact so⟩
theorem write_leaf {M : View} {w : World} (hM : View.le M (View.of w)) {d : Nat} {x : It d} (hv : HdV M x.hd) (hk : okH x.hd = true) {r : Option Nat} {A : Option Addr} {cap n : Nat} {out : List Int} {sp : List Value} (hr : ∀ b, r = some b → M b = none) (ho : OB.ok ⟨r, flat (eK .u8) out ++ sp, 5⟩ w) (so : SO r n cap (flat (eK .u8) out) sp 1) (hn : out.length = n) (hn2 : n ≤ 16384) :
    FnA Tryd.prog 35 [.slice (base r A) n cap, .agg x.enc.toArray] w ⟨r, flat (eK .u8) out ++ sp, 5⟩ (WRA A out (encH x.hd)) := by
  have hkk : x.hd.k = 1 ∨ x.hd.k = 2 := by unfold okH at hk; simp at hk; rcases hk with h | h <;> simp [h.1]
  have e1 := encH_1 (h := x.hd)
  have e2 := encH_2 (h := x.hd)
  unfold It.enc
  generalize x.hd = h at *
  obtain ⟨k, nn, ⟨xs, Ba, Bb, Bo, Bc⟩, La, Lb, Lo, Lc, m⟩ := h
  dsimp only at hkk e1 e2 ⊢
  obtain ⟨hvB, hvb, hvl, _⟩ := hv
  dsimp only at hvB hvb hvl
  refine enterA (M := M) Tryd.func35 rfl rfl rfl rfl hM ho hr ?_
  rcases hkk with rfl | rfl
  · rw [e1 rfl]
    have hu := (u64_cast nn).symm
    have hf1 : flat (eK .u8) (out ++ [1]) = flat (eK .u8) out ++ [.int .u8 1] := by rw [flat_append, flat_one]
    have hl1 : (out ++ [1]).length = n + 1 := by rw [List.length_append, hn]; rfl
    have hl2 : (out ++ [1] ++ bI 8 (u64 nn)).length = n + 1 + 8 := by rw [List.length_append, hl1, bI_length]
    repeat' first
      | apply cw_seq
      | (refine cw_region_id 0 ?_; (apply ol_val; rfl; first | (apply s_boxN; rfl; intro bk3) | (apply s_box1; rfl; rfl; intro bk3)); (apply ol_as; rfl; rfl); (apply ol_nil))
      | (refine cw_region_id 1 ?_; (apply ol_mv; rfl; rfl); (apply ol_val; rfl; apply stp_pur; apply s_len; rfl; exact el_22); (apply ol_val; rfl; apply stp_cmp; apply s_gtr; rfl; rfl; all_goals (intro hc9; try (exfalso; (first | exact hc9 rfl | omega)))); all_goals (apply ol_nil))
      | (refine cw_region_id 3 ?_; (apply ol_mv; rfl; rfl); (apply ol_fa; rfl; rfl; exact fd_25_0; exact qZ); (apply ol_ld; rfl; rfl; rfl; exact qP); (apply ol_val; rfl; apply stp_pur; first | (apply s_conv; rfl; rfl; exact ti_5; (focus (apply wrap_u8; omega))) | (apply s_conv; rfl; rfl; exact ti_5; rfl)); (apply ol_val; rfl; apply s_buildSl; rfl; exact el_22; exact sz_5; exact zb_5; exact qN; rfl; rfl; (exact Nat.le_of_ble_eq_true rfl); exact qN; exact qR; intro bk15); (apply ol_val; rfl; first | (apply s_append_e; rfl; rfl; exact qN; exact el_22; exact sz_5; exact zb_5; rfl; exact by_5; (first | exact (fun _ => rfl)); (first | exact qQ); (first | rfl); exact qO; exact qO; intro rk16 sk16 ck16 ok16) | (apply s_append_r; rfl; rfl; exact qN; (first | rfl | exact (List.append_nil _).symm); exact el_22; exact sz_5; exact zb_5; rfl; exact by_5; (first | exact SO.nil _ | assumption | (exact ⟨by simp, by simp, Nat.le_refl _, by simp⟩)); (first | exact (fun _ => rfl)); (first | exact qQ); (first | rfl); exact qO; exact qO; intro rk16 sk16 ck16 ok16) | (apply s_append_b; rfl; rfl; exact qN; (first | rfl | exact (List.append_nil _).symm); exact el_22; exact sz_5; exact zb_5; rfl; exact by_5; (first | exact SO.nil _ | assumption | (exact ⟨by simp, by simp, Nat.le_refl _, by simp⟩)); (first | exact (fun _ => rfl)); (first | exact qQ); (first | rfl); exact qO; exact qO; intro rk16 sk16 ck16 ok16) | (apply s_append_n; rfl; rfl; exact qN; exact el_22; exact sz_5; exact zb_5; rfl; exact by_5; (first | exact (fun _ => rfl)); (first | exact qQ); (first | rfl); exact qO; exact qO; intro rk16 sk16 ck16 ok16)); (apply ol_as; rfl; rfl); (apply ol_nil))
      | (refine cw_region_id 4 ?_; (apply ol_fa; rfl; rfl; exact fd_25_0; exact qZ); (apply ol_ld; rfl; rfl; rfl; exact qP); (apply ol_nil))
      | (apply cw_cond_true; rfl; exact qA)
      | (apply cw_cond_false; rfl; exact qA)
      | apply cw_skip
      | apply cw_ret
      | apply cw_exit
    rw [← hf1] at ok16
    refine cw_pick (own' := [⟨rk16, flat (eK .u8) (out ++ [1]) ++ sk16, 5⟩, ⟨some bk3, [.int .i64 1, .int .i64 nn, .slice Ba xs.length Bc, .slice La m Lc], 25⟩]) (by rw [hf1]; exact qK) ?_
    repeat' first
      | apply cw_seq
      | (refine cw_region_id 5 ?_; (apply ol_val; rfl; apply stp_cmp; apply s_eql; rfl; rfl; all_goals (intro hc20; try (exfalso; (first | exact hc20 rfl | omega)))); all_goals (apply ol_as; rfl; rfl); all_goals (apply ol_nil))
      | (refine cw_region_id 6 ?_; (apply ol_mv; rfl; rfl); (apply ol_fa; rfl; rfl; exact fd_25_1; exact qZ); (apply ol_ld; rfl; rfl; rfl; exact qP); (apply ol_val; rfl; apply stp_pur; first | (apply s_conv; rfl; rfl; exact ti_57; (focus (apply wrap_u64; omega))) | (apply s_conv; rfl; rfl; exact ti_57; exact hu) | (apply s_conv; rfl; rfl; exact ti_57; rfl)); (apply ol_val; rfl; (apply number_step (size := 8); rfl; rfl; rfl; exact ok16; omega; omega; intro r2 sp2 cap2 so2)); all_goals (apply ol_as; rfl; rfl); all_goals (apply ol_nil))
      | (apply cw_cond_true; rfl; exact qA)
      | (apply cw_cond_false; rfl; exact qA)
      | apply cw_skip
      | apply cw_ret
      | apply cw_block
      | apply cw_exit
    refine endsA ⟨r2, flat (eK .u8) (out ++ [1] ++ bI 8 (u64 nn)) ++ sp2, 5⟩ (RVal.tmp rfl RVal.nil) (by exact qK) ?_
    refine ⟨r2, cap2, sp2, out ++ [1] ++ bI 8 (u64 nn), by rw [List.append_assoc]; exact wrP.all _ _, by omega, by rw [hl2]; rfl, rfl, by rw [hl2]; exact so2⟩
  · rw [e2 rfl]
    have hu := (u64_cast (xs.length : Int)).symm
    rw [u64_nat (by omega)] at hu
    have hf1 : flat (eK .u8) (out ++ [2]) = flat (eK .u8) out ++ [.int .u8 2] := by rw [flat_append, flat_one]
    have hl1 : (out ++ [2]).length = n + 1 := by rw [List.length_append, hn]; rfl
    have hl2 : (out ++ [2] ++ bI 4 xs.length ++ xs).length = n + 1 + 4 + xs.length := by rw [List.length_append, List.length_append, hl1, bI_length]
    have hf2 : flat (eK .u8) (out ++ [2] ++ bI 4 xs.length ++ xs) = flat (eK .u8) (out ++ [2] ++ bI 4 xs.length) ++ flat (eK .u8) xs := flat_append _ _ _
    have hall := SlA.all (eK_length .u8) hvB
    repeat' first
      | apply cw_seq
      | (refine cw_region_id 0 ?_; (apply ol_val; rfl; first | (apply s_boxN; rfl; intro bk3) | (apply s_box1; rfl; rfl; intro bk3)); (apply ol_as; rfl; rfl); (apply ol_nil))
      | (refine cw_region_id 1 ?_; (apply ol_mv; rfl; rfl); (apply ol_val; rfl; apply stp_pur; apply s_len; rfl; exact el_22); (apply ol_val; rfl; apply stp_cmp; apply s_gtr; rfl; rfl; all_goals (intro hc9; try (exfalso; (first | exact hc9 rfl | omega)))); all_goals (apply ol_nil))
      | (refine cw_region_id 3 ?_; (apply ol_mv; rfl; rfl); (apply ol_fa; rfl; rfl; exact fd_25_0; exact qZ); (apply ol_ld; rfl; rfl; rfl; exact qP); (apply ol_val; rfl; apply stp_pur; first | (apply s_conv; rfl; rfl; exact ti_5; (focus (apply wrap_u8; omega))) | (apply s_conv; rfl; rfl; exact ti_5; rfl)); (apply ol_val; rfl; apply s_buildSl; rfl; exact el_22; exact sz_5; exact zb_5; exact qN; rfl; rfl; (exact Nat.le_of_ble_eq_true rfl); exact qN; exact qR; intro bk15); (apply ol_val; rfl; first | (apply s_append_e; rfl; rfl; exact qN; exact el_22; exact sz_5; exact zb_5; rfl; exact by_5; (first | exact (fun _ => rfl)); (first | exact qQ); (first | rfl); exact qO; exact qO; intro rk16 sk16 ck16 ok16) | (apply s_append_r; rfl; rfl; exact qN; (first | rfl | exact (List.append_nil _).symm); exact el_22; exact sz_5; exact zb_5; rfl; exact by_5; (first | exact SO.nil _ | assumption | (exact ⟨by simp, by simp, Nat.le_refl _, by simp⟩)); (first | exact (fun _ => rfl)); (first | exact qQ); (first | rfl); exact qO; exact qO; intro rk16 sk16 ck16 ok16) | (apply s_append_b; rfl; rfl; exact qN; (first | rfl | exact (List.append_nil _).symm); exact el_22; exact sz_5; exact zb_5; rfl; exact by_5; (first | exact SO.nil _ | assumption | (exact ⟨by simp, by simp, Nat.le_refl _, by simp⟩)); (first | exact (fun _ => rfl)); (first | exact qQ); (first | rfl); exact qO; exact qO; intro rk16 sk16 ck16 ok16) | (apply s_append_n; rfl; rfl; exact qN; exact el_22; exact sz_5; exact zb_5; rfl; exact by_5; (first | exact (fun _ => rfl)); (first | exact qQ); (first | rfl); exact qO; exact qO; intro rk16 sk16 ck16 ok16)); (apply ol_as; rfl; rfl); (apply ol_nil))
      | (refine cw_region_id 4 ?_; (apply ol_fa; rfl; rfl; exact fd_25_0; exact qZ); (apply ol_ld; rfl; rfl; rfl; exact qP); (apply ol_nil))
      | (apply cw_cond_true; rfl; exact qA)
      | (apply cw_cond_false; rfl; exact qA)
      | apply cw_skip
      | apply cw_ret
      | apply cw_exit
    rw [← hf1] at ok16
    refine cw_pick (own' := [⟨rk16, flat (eK .u8) (out ++ [2]) ++ sk16, 5⟩, ⟨some bk3, [.int .i64 2, .int .i64 nn, .slice Ba xs.length Bc, .slice La m Lc], 25⟩]) (by rw [hf1]; exact qK) ?_
    repeat' first
      | apply cw_seq
      | (refine cw_region_id 5 ?_; (apply ol_val; rfl; apply stp_cmp; apply s_eql; rfl; rfl; all_goals (intro hc20; try (exfalso; (first | exact hc20 rfl | omega)))); all_goals (apply ol_as; rfl; rfl); all_goals (apply ol_nil))
      | (refine cw_region_id 7 ?_; (apply ol_val; rfl; apply stp_cmp; apply s_eql; rfl; rfl; all_goals (intro hc27; try (exfalso; (first | exact hc27 rfl | omega)))); all_goals (apply ol_as; rfl; rfl); all_goals (apply ol_nil))
      | (refine cw_draw (id := 8) 8 (.mv 0 (.mv 1 (.mv 2 (.mv 3 (.mv 4 (.mv 6 (.mv 7 (.fx 5 (PT.nil))))))))) mixed (by kernel_rfl) ?_; (apply od_mv; rfl; rfl; apply s_move; rfl); (apply od_mv; rfl; rfl; apply s_fieldAddr'; rfl; exact fd_25_2; exact qZ); (apply od_mv; rfl; rfl; apply s_load1; rfl; rfl; exact qP); (apply od_mv; rfl; rfl; apply s_len; rfl; exact el_22); all_goals (apply od_mv; rfl; rfl; first | (apply s_conv; rfl; rfl; exact ti_57; (focus (apply wrap_u64; omega))) | (apply s_conv; rfl; rfl; exact ti_57; exact hu) | (apply s_conv; rfl; rfl; exact ti_57; rfl)); all_goals (apply od_mv; rfl; rfl; apply s_fieldAddr'; rfl; exact fd_25_2; exact qZ); all_goals (apply od_mv; rfl; rfl; apply s_load1; rfl; rfl; exact qP); all_goals (apply od_fx; (first | exact Wk.refl _ _ | exact qW); (apply fx_val; rfl; rfl; (apply number_step (size := 4); rfl; rfl; rfl; exact ok16; omega; omega; intro r2 sp2 cap2 so2))); all_goals (apply od_nil; (first | exact Wk.refl _ _ | exact qW)); all_goals (apply ol_val; rfl; apply s_append_rw; rfl; rfl; exact qS; rfl; exact el_22; exact sz_5; exact zb_5; rfl; exact by_5; exact so2; exact hvB.at_; exact RdN.view (by rw [Nat.mul_one]; rw [Nat.mul_one] at hall; exact hall); exact flatK_ones; (first | omega | (simp; omega)); (first | omega | (simp; omega)); (intro rk36 sk36 ck36 ok36)); all_goals (apply ol_as; rfl; rfl); all_goals (apply ol_nil))
      | (refine cw_drawW (id := 8) (own0 := [⟨some bk3, [.int .i64 2, .int .i64 nn, .slice Ba xs.length Bc, .slice La m Lc], 25⟩]) 8 (.mv 0 (.mv 1 (.mv 2 (.mv 3 (.mv 4 (.mv 6 (.mv 7 (.fx 5 (PT.nil))))))))) mixed (by kernel_rfl) (by (first | exact Wk.refl _ _ | exact qW)) ?_; (apply od_mv; rfl; rfl; apply s_move; rfl); (apply od_mv; rfl; rfl; apply s_fieldAddr'; rfl; exact fd_25_2; exact qZ); (apply od_mv; rfl; rfl; apply s_load1; rfl; rfl; exact qP); (apply od_mv; rfl; rfl; apply s_len; rfl; exact el_22); all_goals (apply od_mv; rfl; rfl; first | (apply s_conv; rfl; rfl; exact ti_57; (focus (apply wrap_u64; omega))) | (apply s_conv; rfl; rfl; exact ti_57; exact hu) | (apply s_conv; rfl; rfl; exact ti_57; rfl)); all_goals (apply od_mv; rfl; rfl; apply s_fieldAddr'; rfl; exact fd_25_2; exact qZ); all_goals (apply od_mv; rfl; rfl; apply s_load1; rfl; rfl; exact qP); all_goals (apply od_fx; (first | exact Wk.refl _ _ | exact qW); (apply fx_val; rfl; rfl; (apply number_step (size := 4); rfl; rfl; rfl; exact ok16; omega; omega; intro r2 sp2 cap2 so2))); all_goals (apply od_nil; (first | exact Wk.refl _ _ | exact qW)); all_goals (apply ol_val; rfl; apply s_append_rw; rfl; rfl; exact qS; rfl; exact el_22; exact sz_5; exact zb_5; rfl; exact by_5; exact so2; exact hvB.at_; exact RdN.view (by rw [Nat.mul_one]; rw [Nat.mul_one] at hall; exact hall); exact flatK_ones; (first | omega | (simp; omega)); (first | omega | (simp; omega)); (intro rk36 sk36 ck36 ok36)); all_goals (apply ol_as; rfl; rfl); all_goals (apply ol_nil))
      | (apply cw_cond_true; rfl; exact qA)
      | (apply cw_cond_false; rfl; exact qA)
      | apply cw_skip
      | apply cw_ret
      | apply cw_block
      | apply cw_exit
    refine endsA ⟨rk36, flat (eK .u8) (out ++ [2] ++ bI 4 xs.length ++ xs) ++ sk36, 5⟩ (RVal.tmp rfl RVal.nil) (by rw [hf2]; exact qK) ?_
    refine ⟨rk36, ck36, sk36, out ++ [2] ++ bI 4 xs.length ++ xs, ?_, by omega, by rw [hl2]; rfl, rfl, by rw [hl2, hf2]; exact ok36⟩
    rw [show out ++ [2] ++ bI 4 xs.length ++ xs = out ++ ([2] ++ bI 4 xs.length ++ xs) by simp only [List.append_assoc]]
    exact wrP.all _ _
end Go.Proofs.YtkkfgeekdaalmaaDoor
namespace Go.Proofs.YtkkfgeekdaalmaaDoor
set_option maxRecDepth 20000
set_option linter.unusedSimpArgs false
set_option linter.unusedVariables false
open Go Go.Fw
structure WSt where
  i : Nat
  r : Option Nat
  c : Nat
  sp : List Value
  o : List Int
theorem encI_list {d : Nat} {h : Hd} {L : List (It d)} (h3 : h.k = 3) : encI (d + 1) (h, L) = ([3] ++ bI 4 h.m) ++ L.flatMap (encI d) := by
  show (if h.k = 3 then 3 :: (bI 4 h.m ++ L.flatMap (encI d)) else encH h) = _
  rw [if_pos h3]
  rfl
theorem okI_list {d : Nat} {h : Hd} {L : List (It d)} (h3 : h.k = 3) : okI (d + 1) (h, L) = (decide (h.n = 0 ∧ h.B.xs.length = 0 ∧ h.m ≤ 1000) && L.all (okI d)) := by
  show (if h.k = 3 then decide (h.n = 0 ∧ h.B.xs.length = 0 ∧ h.m ≤ 1000) && L.all (okI d) else okH h) = _
  rw [if_pos h3]
theorem flatMap_take_succ {α β : Type} (f : α → List β) {L : List α} {i : Nat} (h : i < L.length) : (L.take (i + 1)).flatMap f = (L.take i).flatMap f ++ f L[i] := by rw [List.take_succ_eq_append_getElem h, List.flatMap_append]; simp
end Go.Proofs.YtkkfgeekdaalmaaDoor
namespace Go.Proofs.YtkkfgeekdaalmaaDoor
set_option maxRecDepth 20000
set_option linter.unusedSimpArgs false
set_option linter.unusedVariables false
open Go Go.Fw
attribute [local irreducible] CW OL OD FX Stp FnC FnV FnA Ret bI bmid encI wrP
set_option maxHeartbeats 1600000
theorem write_spec : ∀ (d : Nat) {M : View} {w : World}, View.le M (View.of w) → ∀ {x : It d}, ItV M d x → okI d x = true → ∀ {r : Option Nat} {A : Option Addr} {cap n : Nat} {out : List Int} {sp : List Value}, (∀ b, r = some b → M b = none) → OB.ok ⟨r, flat (eK .u8) out ++ sp, 5⟩ w → SO r n cap (flat (eK .u8) out) sp 1 → out.length = n → n ≤ 140737488400000 →
    FnA Tryd.prog 35 [.slice (base r A) n cap, .agg x.enc.toArray] w ⟨r, flat (eK .u8) out ++ sp, 5⟩ (WRA A out (encI d x)) := by
  intro d
  induction d with
  | zero =>
    intro M w hM x hx hok r A cap n out sp hr ho so hn hn2
    by_cases hl : 16384 < n
    · exact write_long hM hr ho so hn hn2 hl _
    · rw [encI_leaf (.inr rfl)]
      rw [okI_leaf (.inr rfl)] at hok
      exact write_leaf hM hx.head hok hr ho so hn (by omega)
  | succ d ih =>
    intro M w hM x hx hok r A cap n out sp hr ho so hn hn2
    by_cases hl : 16384 < n
    · exact write_long hM hr ho so hn hn2 hl _
    · by_cases h3 : x.hd.k = 3
      · obtain ⟨h, L⟩ := x
        obtain ⟨hv, hlL, sL, hL⟩ := hx
        have h3' : h.k = 3 := h3
        have e := encI_list (d := d) (L := L) h3'
        have eo : okI (d + 1) (h, L) = (decide (h.n = 0 ∧ h.B.xs.length = 0 ∧ h.m ≤ 1000) && L.all (okI d)) := by
          show (if h.k = 3 then decide (h.n = 0 ∧ h.B.xs.length = 0 ∧ h.m ≤ 1000) && L.all (okI d) else okH h) = _
          rw [if_pos h3']
        rw [eo, Bool.and_eq_true, decide_eq_true_eq, List.all_eq_true] at hok
        obtain ⟨⟨hn0, hB0, hm⟩, hall⟩ := hok
        rw [e]
        have hxe : It.enc (d := d + 1) (h, L) = [.int .i64 h.k, .int .i64 h.n, .slice h.B.a h.B.xs.length h.B.c, .slice h.La h.m h.Lc] := rfl
        rw [hxe]
        clear hxe e eo h3
        obtain ⟨k, nn, ⟨xs, Ba, Bb, Bo, Bc⟩, La, Lb, Lo, Lc, m⟩ := h
        dsimp only at hv hlL sL h3' hm ⊢
        subst h3'
        have hu := (u64_cast (m : Int)).symm
        rw [u64_nat (by omega)] at hu
        have hf1 : flat (eK .u8) (out ++ [3]) = flat (eK .u8) out ++ [.int .u8 3] := by rw [flat_append, flat_one]
        have hl1 : (out ++ [3]).length = n + 1 := by rw [List.length_append, hn]; rfl
        have hl2 : (out ++ [3] ++ bI 4 m).length = n + 1 + 4 := by rw [List.length_append, hl1, bI_length]
        refine enterA (M := M) Tryd.func35 rfl rfl rfl rfl hM ho hr ?_
        repeat' first
          | apply cw_seq
          | (refine cw_region_id 0 ?_; (apply ol_val; rfl; first | (apply s_boxN; rfl; intro bk3) | (apply s_box1; rfl; rfl; intro bk3)); (apply ol_as; rfl; rfl); (apply ol_nil))
          | (refine cw_region_id 1 ?_; (apply ol_mv; rfl; rfl); (apply ol_val; rfl; apply stp_pur; apply s_len; rfl; exact el_22); (apply ol_val; rfl; apply stp_cmp; apply s_gtr; rfl; rfl; all_goals (intro hc9; try (exfalso; (first | exact hc9 rfl | omega)))); all_goals (apply ol_nil))
          | (refine cw_region_id 3 ?_; (apply ol_mv; rfl; rfl); (apply ol_fa; rfl; rfl; exact fd_25_0; exact qZ); (apply ol_ld; rfl; rfl; rfl; exact qP); (apply ol_val; rfl; apply stp_pur; first | (apply s_conv; rfl; rfl; exact ti_5; (focus (apply wrap_u8; omega))) | (apply s_conv; rfl; rfl; exact ti_5; rfl)); (apply ol_val; rfl; apply s_buildSl; rfl; exact el_22; exact sz_5; exact zb_5; exact qN; rfl; rfl; (exact Nat.le_of_ble_eq_true rfl); exact qN; exact qR; intro bk15); (apply ol_val; rfl; first | (apply s_append_e; rfl; rfl; exact qN; exact el_22; exact sz_5; exact zb_5; rfl; exact by_5; (first | exact (fun _ => rfl)); (first | exact qQ); (first | rfl); exact qO; exact qO; intro rk16 sk16 ck16 ok16) | (apply s_append_r; rfl; rfl; exact qN; (first | rfl | exact (List.append_nil _).symm); exact el_22; exact sz_5; exact zb_5; rfl; exact by_5; (first | exact SO.nil _ | assumption | (exact ⟨by simp, by simp, Nat.le_refl _, by simp⟩)); (first | exact (fun _ => rfl)); (first | exact qQ); (first | rfl); exact qO; exact qO; intro rk16 sk16 ck16 ok16) | (apply s_append_b; rfl; rfl; exact qN; (first | rfl | exact (List.append_nil _).symm); exact el_22; exact sz_5; exact zb_5; rfl; exact by_5; (first | exact SO.nil _ | assumption | (exact ⟨by simp, by simp, Nat.le_refl _, by simp⟩)); (first | exact (fun _ => rfl)); (first | exact qQ); (first | rfl); exact qO; exact qO; intro rk16 sk16 ck16 ok16) | (apply s_append_n; rfl; rfl; exact qN; exact el_22; exact sz_5; exact zb_5; rfl; exact by_5; (first | exact (fun _ => rfl)); (first | exact qQ); (first | rfl); exact qO; exact qO; intro rk16 sk16 ck16 ok16)); (apply ol_as; rfl; rfl); (apply ol_nil))
          | (refine cw_region_id 4 ?_; (apply ol_fa; rfl; rfl; exact fd_25_0; exact qZ); (apply ol_ld; rfl; rfl; rfl; exact qP); (apply ol_nil))
          | (apply cw_cond_true; rfl; exact qA)
          | (apply cw_cond_false; rfl; exact qA)
          | apply cw_skip
          | apply cw_ret
          | apply cw_exit
        rw [← hf1] at ok16
        refine cw_pick (own' := [⟨rk16, flat (eK .u8) (out ++ [3]) ++ sk16, 5⟩, ⟨some bk3, [.int .i64 3, .int .i64 nn, .slice Ba xs.length Bc, .slice La m Lc], 25⟩]) (by rw [hf1]; exact qK) ?_
        repeat' first
          | apply cw_seq
          | (refine cw_region_id 5 ?_; (apply ol_val; rfl; apply stp_cmp; apply s_eql; rfl; rfl; all_goals (intro hc20; try (exfalso; (first | exact hc20 rfl | omega)))); all_goals (apply ol_as; rfl; rfl); all_goals (apply ol_nil))
          | (refine cw_region_id 7 ?_; (apply ol_val; rfl; apply stp_cmp; apply s_eql; rfl; rfl; all_goals (intro hc27; try (exfalso; (first | exact hc27 rfl | omega)))); all_goals (apply ol_as; rfl; rfl); all_goals (apply ol_nil))
          | (refine cw_region_id 9 ?_; (apply ol_mv; rfl; rfl); (apply ol_fa; rfl; rfl; exact fd_25_3; exact qZ); (apply ol_ld; rfl; rfl; rfl; exact qP); (apply ol_val; rfl; apply stp_pur; apply s_len; rfl; exact el_23); (apply ol_val; rfl; apply stp_pur; first | (apply s_conv; rfl; rfl; exact ti_57; (focus (apply wrap_u64; omega))) | (apply s_conv; rfl; rfl; exact ti_57; exact hu) | (apply s_conv; rfl; rfl; exact ti_57; rfl)); (apply ol_val; rfl; (apply number_step (size := 4); rfl; rfl; rfl; exact ok16; omega; omega; intro r2 sp2 cap2 so2)); all_goals (apply ol_as; rfl; rfl); all_goals (apply ol_nil))
          | (refine cw_region_id 10 ?_; (apply ol_fa; rfl; rfl; exact fd_25_3; exact qZ); (apply ol_ld; rfl; rfl; rfl; exact qP); (apply ol_val; rfl; apply stp_pur; apply s_len; rfl; exact el_23); (apply ol_mv; rfl; rfl); (apply ol_nil))
          | (apply cw_cond_true; rfl; exact qA)
          | (apply cw_cond_false; rfl; exact qA)
          | apply cw_skip
          | apply cw_ret
          | apply cw_block
          | apply cw_exit
        refine cw_loopK (σ := WSt) [44, 45] (by (repeat (first | exact Keep.nil | (apply Keep.cons; rfl)))) (fun s => [(0, .slice (base s.r A) s.o.length s.c), (46, .int .i64 s.i)]) (fun _ => M) (fun s => [⟨s.r, flat (eK .u8) s.o ++ s.sp, 5⟩, ⟨some bk3, [.int .i64 3, .int .i64 nn, .slice Ba xs.length Bc, .slice La m Lc], 25⟩]) (fun s => (s.i ≤ m ∧ s.o.length ≤ 140737488400000) ∧ wrP out ([3] ++ bI 4 m ++ (L.take s.i).flatMap (encI d)) s.o ∧ SO s.r s.o.length s.c (flat (eK .u8) s.o) s.sp 1) (fun s => m - s.i) ⟨0, r2, cap2, sp2, out ++ [3] ++ bI 4 m⟩ (by dsimp only; rw [hl2]; (repeat (first | exact trivial | refine And.intro rfl ?_))) (View.le.refl _) (by exact qK) ⟨⟨Nat.zero_le _, by dsimp only; omega⟩, by dsimp only; rw [List.take_zero, List.flatMap_nil, List.append_nil, List.append_assoc]; exact wrP.all _ _, by dsimp only; rw [hl2]; exact so2⟩ ?_
        rintro ⟨i, r3, c3, sp3, o3⟩ ⟨⟨hi, ho3⟩, hw3, so3⟩
        dsimp only at hi ho3 hw3 so3
        dsimp only
        by_cases him : i < m
        · have hil : i < L.length := by omega
          have hci := sL.cells i hil
          have hfm := flatMap_take_succ (encI d) hil
          have kw : ∀ (w' : World), View.le M (View.of w') → (∀ b, r3 = some b → M b = none) → OB.ok ⟨r3, flat (eK .u8) o3 ++ sp3, 5⟩ w' → FnA Tryd.prog 35 [.slice (base r3 A) o3.length c3, .agg (It.enc (L[i]'hil)).toArray] w' ⟨r3, flat (eK .u8) o3 ++ sp3, 5⟩ (WRA A o3 (encI d (L[i]'hil))) := fun w' h h1 h2 =>
            ih h (hL _ (List.getElem_mem hil)) (hall _ (List.getElem_mem hil)) h1 h2 so3 rfl ho3
          have hstep : ∀ o4, wrP o3 (encI d (L[i]'hil)) o4 → wrP out ([3] ++ bI 4 m ++ (L.take (i + 1)).flatMap (encI d)) o4 := fun o4 h => by
            rw [hfm, ← List.append_assoc]
            exact hw3.trans h
          clear hfm hL hall
          generalize L[i]'hil = y at *
          unfold It.enc at hci kw
          unfold WRA at kw
          repeat' first
            | apply cw_seq
            | (refine cw_region_id 11 ?_; (apply ol_val; rfl; apply stp_cmp; apply s_lss; rfl; rfl; all_goals (intro hc47; try (exfalso; (first | exact hc47 rfl | omega)))); all_goals (apply ol_nil))
            | (refine cw_region_id 12 ?_; (apply ol_val; rfl; apply stp_pur; first | (apply s_indexK; rfl; rfl; exact el_23; exact sz_25; (first | rfl | exact sL.at_ (by omega)); omega) | (apply s_indexO; rfl; rfl; exact el_23; exact sz_25; (first | rfl | exact sL.at_ (by omega)); omega)); (apply ol_ldN; rfl; rfl; rfl; exact sz_25; (first | exact qQ | (apply RdN.view; exact hci))); (apply ol_val; rfl; apply s_alloc; exact zb_25; exact qN; intro bk6); (apply ol_eff; apply s_storeN; rfl; rfl; exact sz_25; rfl; rfl; exact qN; exact qN); (apply ol_nil))
            | (refine cw_region_id 13 ?_; (apply ol_mv; rfl; rfl); (apply ol_ldN; rfl; rfl; rfl; exact sz_25; (first | exact qQ | (apply RdN.view; exact hci))); (apply ol_val; rfl; (apply s_callA; rfl; exact gf_35; (intro w' hw'; exact kw w' hw'.le (hw'.sep_ (x := ⟨r3, flat (eK .u8) o3 ++ sp3, 5⟩) (by (repeat (first | exact Has.here | apply Has.there)))) (hw'.ok_ (by (repeat (first | exact Has.here | apply Has.there))))); exact qS; (intro v y h; obtain ⟨r4, c4, sp4, o4, hw4, hl4, rfl, rfl, so4⟩ := h))); all_goals (apply ol_as; rfl; rfl); all_goals (apply ol_nil))
            | (refine cw_region_id 14 ?_; (apply ol_val; rfl; apply stp_pur; apply s_add64; rfl; rfl; omega); (apply ol_mv; rfl; rfl); (apply ol_nil))
            | (apply cw_cond_true; rfl; exact qA)
            | (apply cw_cond_false; rfl; exact qA)
            | apply cw_skip
            | apply cw_ret
            | apply cw_block
            | apply cw_exit
          exact ⟨⟨i + 1, r4, c4, sp4, o4⟩, ⟨by (repeat (first | exact trivial | refine And.intro rfl ?_)), View.le.refl _, by exact qK, ⟨⟨him, hl4⟩, hstep o4 hw4, so4⟩, by dsimp only; omega⟩⟩
        · have htk : L.take i = L := List.take_of_length_le (by omega)
          rw [htk] at hw3
          repeat' first
            | apply cw_seq
            | (refine cw_region_id 11 ?_; (apply ol_val; rfl; apply stp_cmp; apply s_lss; rfl; rfl; all_goals (intro hc47; try (exfalso; (first | exact hc47 rfl | omega)))); all_goals (apply ol_nil))
            | (refine cw_region_id 15 ?_; (apply ol_mv; rfl; rfl); (apply ol_as; rfl; rfl); (apply ol_nil))
            | (apply cw_cond_true; rfl; exact qA)
            | (apply cw_cond_false; rfl; exact qA)
            | apply cw_skip
            | apply cw_ret
            | apply cw_block
            | apply cw_exit
          refine endsA ⟨r3, flat (eK .u8) o3 ++ sp3, 5⟩ (RVal.tmp rfl RVal.nil) (by exact qK) ?_
          exact ⟨r3, c3, sp3, o3, hw3, ho3, rfl, rfl, so3⟩
      · rw [encI_leaf (.inl h3)]
        rw [okI_leaf (.inl h3)] at hok
        exact write_leaf hM hx.head hok hr ho so hn (by omega)
end Go.Proofs.YtkkfgeekdaalmaaDoor
namespace Go.Proofs.YtkkfgeekdaalmaaDoor
set_option maxRecDepth 20000
set_option linter.unusedSimpArgs false
set_option linter.unusedVariables false
open Go Go.Fw
/-- What Encode says: the error and the bytes. -/
def encP (x : It 8) : Nat × List Int := if okI 8 x = false then (1, []) else if 16384 < (encI 8 x).length then (5, []) else (0, encI 8 x)
def BRs (p : Nat × List Int) (v : Value) (new : List OB) : Prop := ∃ u, v = .tuple #[u, .int .i64 p.1] ∧ RowRes (eK .u8) 1 5 p.2 u new
theorem RowRes.nil8 : RowRes (eK .u8) 1 5 [] (.slice none 0 0) [⟨none, [], 5⟩] := RowRes.zero (eK .u8) 1 5
structure ESt where
  i : Nat
  r : Option Nat
  A : Option Addr
  c : Nat
  sp : List Value
end Go.Proofs.YtkkfgeekdaalmaaDoor
namespace Go.Proofs.YtkkfgeekdaalmaaDoor
set_option maxRecDepth 20000
set_option linter.unusedSimpArgs false
set_option linter.unusedVariables false
open Go Go.Fw
attribute [local irreducible] CW OL OD FX Stp FnC FnV FnA Ret bI bmid encI wrP okI
set_option maxHeartbeats 1600000
theorem encode_spec {M : View} {w : World} (hM : View.le M (View.of w)) {x : It 8} (hx : ItV M 8 x) :
    FnC Tryd.prog 12 [.agg x.enc.toArray] w (BRs (encP x)) := by
  have kv := fun (w' : World) (h : View.le M (View.of w')) => valid_spec h hx
  have kw := fun (w' : World) (h : View.le M (View.of w')) (hok : okI 8 x = true) => write_spec 8 h hx hok (r := none) (A := none) (cap := 0) (n := 0) (out := []) (sp := []) (fun b hb => by cases hb) rfl (SO.nil 1) rfl (by omega)
  unfold encP
  unfold It.enc at *
  generalize x.hd = h at *
  obtain ⟨k, n, ⟨xs, Ba, Bb, Bo, Bc⟩, La, Lb, Lo, Lc, m⟩ := h
  dsimp only at kv kw ⊢
  refine enterF (M := M) Tryd.func12 rfl rfl rfl rfl hM ?_
  refine cw_none 5 ?_
  refine cw_none 5 ?_
  by_cases hok : okI 8 x = false
  · rw [if_pos hok]
    rw [hok] at kv
    repeat' first
      | apply cw_seq
      | (refine cw_region_id 0 ?_; (apply ol_val; rfl; first | (apply s_boxN; rfl; intro bk1) | (apply s_box1; rfl; rfl; intro bk1)); (apply ol_as; rfl; rfl); (apply ol_as; rfl; rfl); (apply ol_nil))
      | (refine cw_region_id 1 ?_; (apply ol_ldN; rfl; rfl; rfl; exact sz_25; exact qQ); (apply ol_val; rfl; apply s_callv; rfl; exact gf_14; (intro w' hw'; exact kv w' hw'.le)); (apply ol_val; rfl; apply stp_pur; first | (apply s_not_t; rfl; exact qA) | (apply s_not_f; rfl; exact qA) | (apply s_not; rfl)); (apply ol_nil))
      | (refine cw_region_id 2 ?_; (apply ol_as; rfl; rfl); (apply ol_as; rfl; rfl); (apply ol_nil))
      | (apply cw_cond_true; rfl; exact qA)
      | (apply cw_cond_false; rfl; exact qA)
      | apply cw_skip
      | apply cw_ret
      | apply cw_block
      | apply cw_exit
    refine ends [⟨none, [], 5⟩] (RVal.tmp rfl (RVal.tmp rfl RVal.nil)) (by exact qK) ?_
    exact ⟨_, rfl, RowRes.nil8⟩
  · rw [if_neg hok]
    have hok1 : okI 8 x = true := by simpa using hok
    rw [hok1] at kv
    have kw' := fun (w' : World) (h : View.le M (View.of w')) => kw w' h hok1
    clear kw
    generalize encI 8 x = E at *
    unfold WRA at kw'
    have hfin : ∀ o4, wrP [] E o4 → (if 16384 < E.length then ((5, []) : Nat × List Int) else (0, E)) = if 16384 < o4.length then (5, []) else (0, o4) := fun o4 h => by
      unfold wrP at h
      simp only [List.length_nil, Nat.zero_add, List.nil_append] at h
      by_cases hl : 16384 < E.length
      · rw [if_pos hl, if_pos (h.2 hl)]
      · rw [if_neg hl, h.1 (by omega), if_neg hl]
    repeat' first
      | apply cw_seq
      | (refine cw_region_id 0 ?_; (apply ol_val; rfl; first | (apply s_boxN; rfl; intro bk1) | (apply s_box1; rfl; rfl; intro bk1)); (apply ol_as; rfl; rfl); (apply ol_as; rfl; rfl); (apply ol_nil))
      | (refine cw_region_id 1 ?_; (apply ol_ldN; rfl; rfl; rfl; exact sz_25; exact qQ); (apply ol_val; rfl; apply s_callv; rfl; exact gf_14; (intro w' hw'; exact kv w' hw'.le)); (apply ol_val; rfl; apply stp_pur; first | (apply s_not_t; rfl; exact qA) | (apply s_not_f; rfl; exact qA) | (apply s_not; rfl)); (apply ol_nil))
      | (refine cw_region_id 3 ?_; (apply ol_ldN; rfl; rfl; rfl; exact sz_25; exact qQ); (apply ol_val; rfl; (apply s_callA (x := ⟨none, [], 5⟩); rfl; exact gf_35; (intro w' hw'; exact kw' w' hw'.le); exact qS; (intro v y h; obtain ⟨r4, c4, sp4, o4, hw4, hl4, rfl, rfl, so4⟩ := h))); all_goals (apply ol_as; rfl; rfl); all_goals (apply ol_nil))
      | (apply cw_cond_true; rfl; exact qA)
      | (apply cw_cond_false; rfl; exact qA)
      | apply cw_skip
      | apply cw_ret
      | apply cw_block
      | apply cw_exit
    rw [hfin o4 hw4]
    clear hfin hw4
    by_cases hl : 16384 < o4.length
    · rw [if_pos hl]
      repeat' first
        | apply cw_seq
        | (refine cw_region_id 4 ?_; (apply ol_mv; rfl; rfl); (apply ol_val; rfl; apply stp_pur; apply s_len; rfl; exact el_22); (apply ol_val; rfl; apply stp_cmp; apply s_gtr; rfl; rfl; all_goals (intro hc12; try (exfalso; (first | exact hc12 rfl | omega)))); all_goals (apply ol_nil))
        | (refine cw_region_id 5 ?_; (apply ol_as; rfl; rfl); (apply ol_as; rfl; rfl); (apply ol_nil))
        | (apply cw_cond_true; rfl; exact qA)
        | (apply cw_cond_false; rfl; exact qA)
        | apply cw_skip
        | apply cw_ret
        | apply cw_block
        | apply cw_exit
      refine ends [⟨none, [], 5⟩] (RVal.tmp rfl (RVal.tmp rfl RVal.nil)) (by exact qK) ?_
      exact ⟨_, rfl, RowRes.nil8⟩
    · rw [if_neg hl]
      repeat' first
        | apply cw_seq
        | (refine cw_region_id 4 ?_; (apply ol_mv; rfl; rfl); (apply ol_val; rfl; apply stp_pur; apply s_len; rfl; exact el_22); (apply ol_val; rfl; apply stp_cmp; apply s_gtr; rfl; rfl; all_goals (intro hc12; try (exfalso; (first | exact hc12 rfl | omega)))); all_goals (apply ol_nil))
        | (refine cw_region_id 6 ?_; (apply ol_mv; rfl; rfl); (apply ol_as; rfl; rfl); (apply ol_as; rfl; rfl); (apply ol_nil))
        | (apply cw_cond_true; rfl; exact qA)
        | (apply cw_cond_false; rfl; exact qA)
        | apply cw_skip
        | apply cw_ret
        | apply cw_block
        | apply cw_exit
      refine ends [⟨r4, flat (eK .u8) o4 ++ sp4, 5⟩] (RVal.tmp rfl (RVal.tmp rfl RVal.nil)) (by exact qK) ?_
      exact ⟨_, rfl, r4, none, c4, sp4, rfl, rfl, so4⟩
end Go.Proofs.YtkkfgeekdaalmaaDoor
namespace Go.Proofs.YtkkfgeekdaalmaaDoor
set_option maxRecDepth 20000
set_option linter.unusedSimpArgs false
set_option linter.unusedVariables false
open Go Go.Fw
theorem SlA.none' {α : Type} {M : View} {enc : α → List Value} {sz : Nat} {a : Option Addr} {b o : Nat} : SlA M enc sz a ([] : List α) b o := ⟨fun h => by simp at h, fun i h => by simp at h⟩
/-- A leaf, so deep as it is read. -/
def mkL : (d : Nat) → Hd → It d
  | 0, h => h
  | _ + 1, h => (h, [])
theorem mkL_hd : ∀ (d : Nat) (h : Hd), (mkL d h).hd = h
  | 0, _ => rfl
  | _ + 1, _ => rfl
theorem ItV.mkL {M : View} {h : Hd} (hv : HdV M h) (hm : h.m = 0) : ∀ d, ItV M d (mkL d h)
  | 0 => hv
  | d + 1 => ⟨hv, hm.symm, SlA.none', fun x hx => by cases hx⟩
theorem okI_mkL {h : Hd} (h3 : h.k ≠ 3) (d : Nat) : okI d (mkL d h) = okH h := by
  rw [okI_leaf (.inl (by rw [mkL_hd]; exact h3)), mkL_hd]
theorem encI_mkL {h : Hd} (h3 : h.k ≠ 3) (d : Nat) : encI d (mkL d h) = encH h := by
  rw [encI_leaf (.inl (by rw [mkL_hd]; exact h3)), mkL_hd]
def hdN (n : Int) : Hd := ⟨1, n, ⟨[], none, 0, 0, 0⟩, none, 0, 0, 0, 0⟩
theorem mkL_enc (d : Nat) (h : Hd) : (mkL d h).enc = [.int .i64 h.k, .int .i64 h.n, .slice h.B.a h.B.xs.length h.B.c, .slice h.La h.m h.Lc] := by unfold It.enc; rw [mkL_hd]
def lfN (n : Int) : List Int := 1 :: bI 8 (u64 n)
/-- The cells of a number's leaf. -/
def lfE (n : Int) : List Value := [.int .i64 1, .int .i64 n, .slice none 0 0, .slice none 0 0]
theorem lfE_length (n : Int) : (lfE n).length = 4 := rfl
theorem lfE_ones (n : Int) : Fw.ones (lfE n) = true := rfl
def IntsR (ns : List Int) (v : Value) (new : List OB) : Prop := ∃ r A c sp, v = .agg [.int .i64 3, .int .i64 0, .slice none 0 0, .slice (base r A) ns.length c].toArray ∧ new = [⟨r, flat lfE ns ++ sp, 25⟩] ∧ SO r ns.length c (flat lfE ns) sp 4
/-- The item. -/
def mkI (ns : List Int) (A : Option Addr) (b c : Nat) : It 7 := (⟨3, 0, ⟨[], none, 0, 0, 0⟩, A, b, 0, c, ns.length⟩, ns.map fun n => mkL 6 (hdN n))
def inE (ns : List Int) : List Int := 3 :: (bI 4 ns.length ++ ns.flatMap lfN)
end Go.Proofs.YtkkfgeekdaalmaaDoor
namespace Go.Proofs.YtkkfgeekdaalmaaDoor
set_option maxRecDepth 20000
set_option linter.unusedSimpArgs false
set_option linter.unusedVariables false
open Go Go.Fw
/-- The number of some bytes, the most significant first. -/
def numB (l : List Int) : Nat := l.foldl (fun a x => 256 * a + x.toNat) 0
theorem numB_nil : numB [] = 0 := rfl
theorem numB_snoc (l : List Int) (x : Int) : numB (l ++ [x]) = 256 * numB l + x.toNat := by unfold numB; rw [List.foldl_append]; rfl
theorem numB_take {l : List Int} {i : Nat} (h : i < l.length) : numB (l.take (i + 1)) = 256 * numB (l.take i) + l[i].toNat := by rw [List.take_succ_eq_append_getElem h, numB_snoc]
theorem foldl_vl : ∀ (l : List Int) (a : Nat), l.foldl (fun a x => 256 * a + x.toNat) a = a * 256 ^ l.length + vl 256 (l.map Int.toNat).reverse
  | [], a => by simp [vl]
  | x :: l, a => by
    rw [List.foldl_cons, foldl_vl l, List.map_cons, List.reverse_cons, vl_append, List.length_reverse, List.length_map, List.length_cons, Nat.pow_succ, Nat.add_mul]
    simp only [vl, Nat.mul_zero, Nat.add_zero]
    have e1 : 256 * a * 256 ^ l.length = a * (256 ^ l.length * 256) := by rw [Nat.mul_comm 256 a, Nat.mul_assoc, Nat.mul_comm 256]
    have e2 : x.toNat * 256 ^ l.length = 256 ^ l.length * x.toNat := Nat.mul_comm _ _
    omega
theorem numB_vl (l : List Int) : numB l = vl 256 (l.map Int.toNat).reverse := by unfold numB; rw [foldl_vl]; omega
theorem bytes_nat {l : List Int} (h : ∀ x ∈ l, 0 ≤ x ∧ x ≤ 255) : ∀ x ∈ (l.map Int.toNat).reverse, x < 256 := fun x hx => by
  obtain ⟨y, hy, rfl⟩ := List.mem_map.1 (List.mem_reverse.1 hx)
  have := h y hy
  omega
theorem numB_lt {l : List Int} (h : ∀ x ∈ l, 0 ≤ x ∧ x ≤ 255) : numB l < 256 ^ l.length := by
  have := vl_lt (bytes_nat h)
  rw [List.length_reverse, List.length_map] at this
  rw [numB_vl]; exact this
theorem bI_numB {l : List Int} (h : ∀ x ∈ l, 0 ≤ x ∧ x ≤ 255) : bI l.length (numB l) = l := by
  have h1 := lw_vl (bytes_nat h)
  rw [List.length_reverse, List.length_map] at h1
  unfold bI
  rw [numB_vl, h1, List.reverse_reverse, List.map_map]
  refine (List.map_congr_left fun x hx => ?_).trans (List.map_id _)
  have := h x hx
  show ((x.toNat : Nat) : Int) = x
  omega
theorem wrapI64 (m : Int) : IntKind.i64.wrap m = (m + 9223372036854775808) % 18446744073709551616 - 9223372036854775808 := by
  simp [IntKind.wrap, IntKind.bits, IntKind.signed]
  try omega
theorem u64_i64 {N : Nat} (h : N < 18446744073709551616) : u64 (IntKind.i64.wrap (N : Int)) = N := by
  have h1 : IntKind.u64.wrap (IntKind.i64.wrap (N : Int)) = ((N : Nat) : Int) := by
    by_cases h2 : N < 9223372036854775808
    · rw [wrap_i64 (by omega), wrap_u64 (by omega)]
    · rw [show IntKind.i64.wrap (N : Int) = (N : Int) - 18446744073709551616 from ?_, show IntKind.u64.wrap ((N : Int) - 18446744073709551616) = (N : Int) from ?_]
      · rw [wrapU64]; omega
      · rw [wrapI64]; omega
  unfold u64
  rw [h1]
  exact Int.toNat_natCast N
/-- So many items one after the other. -/
def rdN (f : List Int → Nat × List Int) : Nat → List Int → Nat × List Int
  | 0, b => (0, b)
  | n + 1, b => if (f b).1 = 0 then rdN f n (f b).2 else ((f b).1, [])
/-- The error, or none and the bytes behind an item within so many lists more. -/
def rdE : Nat → List Int → Nat × List Int
  | d, [] => (4, [])
  | d, k :: r =>
    if k < 1 ∨ 3 < k ∨ k = 3 ∧ d = 0 then (3, [])
    else if k = 1 ∧ r.length < 8 ∨ r.length < 4 then (4, [])
    else if k = 1 then (0, r.drop 8)
    else if k = 2 then (if (r.drop 4).length < numB (r.take 4) then (4, []) else (0, (r.drop 4).drop (numB (r.take 4))))
    else if 1000 < numB (r.take 4) then (3, [])
    else match d with
      | 0 => (3, [])
      | d + 1 => rdN (rdE d) (numB (r.take 4)) (r.drop 4)
/-- The rows of bytes of the item are shorter than 2^32. -/
def shI : (d : Nat) → It d → Prop
  | 0, h => h.B.xs.length < 4294967296
  | d + 1, p => p.1.B.xs.length < 4294967296 ∧ p.2.length = p.1.m ∧ ∀ x ∈ p.2, shI d x
/-- The numbers of the item are in range. -/
def rgI : (d : Nat) → It d → Prop
  | 0, h => -9223372036854775808 ≤ h.n ∧ h.n ≤ 9223372036854775807
  | d + 1, p => (-9223372036854775808 ≤ p.1.n ∧ p.1.n ≤ 9223372036854775807) ∧ ∀ y ∈ p.2, rgI d y
theorem rgI_mkL {h : Hd} (hr : -9223372036854775808 ≤ h.n ∧ h.n ≤ 9223372036854775807) : ∀ d, rgI d (mkL d h)
  | 0 => hr
  | d + 1 => ⟨hr, fun y hy => by cases hy⟩
theorem wrap_rg (m : Int) : -9223372036854775808 ≤ IntKind.i64.wrap m ∧ IntKind.i64.wrap m ≤ 9223372036854775807 := by rw [wrapI64]; omega
/-- Valid, with numbers in range. -/
def okR (d : Nat) (x : It d) : Prop := okI d x = true ∧ rgI d x
end Go.Proofs.YtkkfgeekdaalmaaDoor
namespace Go.Proofs.YtkkfgeekdaalmaaDoor
set_option maxRecDepth 20000
set_option linter.unusedSimpArgs false
set_option linter.unusedVariables false
open Go Go.Fw
/-- The reader: a slice of bytes, and an error. -/
abbrev rdB (rb : Nat) (a : Option Addr) (n c : Nat) (e : Nat) : OB := ⟨some rb, [.slice a n c, .int .i64 (e : Nat)], 60⟩
def fe (e k : Nat) : Nat := if e = 0 then k else e
/-- A row of bytes for reading, so many long. -/
structure BV (M : View) (l : List Int) (a : Option Addr) (n c : Nat) : Prop where
  hs : ∃ b o, SlA M (eK .u8) 1 a l b o
  hn : l.length = n
  hc : n ≤ c
  hb : ∀ x ∈ l, 0 ≤ x ∧ x ≤ 255
theorem BV.mono {M N : View} {l : List Int} {a : Option Addr} {n c : Nat} (h : BV M l a n c) (hM : View.le M N) : BV N l a n c := by
  obtain ⟨⟨b, o, s⟩, h1, h2, h3⟩ := h
  exact ⟨⟨b, o, s.mono hM⟩, h1, h2, h3⟩
theorem BV.take {M : View} {l : List Int} {a : Option Addr} {n c k : Nat} (h : BV M l a n c) (hk : k ≤ n) : BV M (l.take k) (slicedA a 0 c 1) (k - 0) (c - 0) := by
  obtain ⟨⟨b, o, s⟩, h1, h2, h3⟩ := h
  have := SlA.sub s (l := 0) (h := k) (m := c) (Nat.zero_le _) (by omega) (by omega)
  rw [List.drop_zero] at this
  exact ⟨⟨b, _, this⟩, by rw [List.length_take]; omega, by omega, fun x hx => h3 x (List.mem_of_mem_take hx)⟩
theorem BV.drop {M : View} {l : List Int} {a : Option Addr} {n c k : Nat} (h : BV M l a n c) (hk : k ≤ n) : BV M (l.drop k) (slicedA a k c 1) (n - k) (c - k) := by
  obtain ⟨⟨b, o, s⟩, h1, h2, h3⟩ := h
  have := SlA.sub s (l := k) (h := n) (m := c) hk (by omega) h2
  rw [List.take_of_length_le (by omega)] at this
  exact ⟨⟨b, _, this⟩, by rw [List.length_drop]; omega, by omega, fun x hx => h3 x (List.mem_of_mem_drop hx)⟩
end Go.Proofs.YtkkfgeekdaalmaaDoor
namespace Go.Proofs.YtkkfgeekdaalmaaDoor
set_option maxRecDepth 20000
set_option linter.unusedSimpArgs false
set_option linter.unusedVariables false
open Go Go.Fw
attribute [local irreducible] CW OL OD FX Stp FnC FnV FnA FnM Ret bI encI okI numB
set_option maxHeartbeats 1600000
theorem fail_spec {M : View} {w : World} (hM : View.le M (View.of w)) {rb : Nat} {a : Option Addr} {n c e k : Nat} (hok : ∀ x ∈ [rdB rb a n c e], x.ok w) (hsep : ∀ x ∈ [rdB rb a n c e], ∀ b, x.ref = some b → M b = none) (hnd : (refs [rdB rb a n c e]).Nodup) :
    FnM Tryd.prog 40 [.pointer (some ⟨rb, 0, none⟩), .int .i64 (k : Nat)] w [rdB rb a n c e] (fun _ _ ys => ys = [rdB rb a n c (fe e k)]) := by
  refine enterW (M := M) Tryd.func40 rfl rfl rfl rfl hM hok hsep hnd ?_
  unfold fe
  by_cases h : e = 0
  · subst h
    rw [if_pos rfl]
    repeat' first
      | apply cw_seq
      | (refine cw_region_id 0 ?_; (apply ol_mv; rfl; rfl); (apply ol_val; rfl; apply stp_pur; apply s_nilCheck; rfl); (apply ol_fa; rfl; rfl; exact fd_60_1; exact qZ); (apply ol_ld; rfl; rfl; rfl; exact qP); (apply ol_val; rfl; apply stp_cmp; apply s_eql; rfl; rfl; all_goals (intro hc8; try (exfalso; (first | exact hc8 rfl | omega)))); all_goals (apply ol_nil))
      | (refine cw_region_id 1 ?_; (apply ol_mv; rfl; rfl); (apply ol_mv; rfl; rfl); (apply ol_val; rfl; apply stp_pur; apply s_nilCheck; rfl); (apply ol_fa; rfl; rfl; exact fd_60_1; exact qZ); (apply ol_eff; apply s_store1; rfl; rfl; exact sz_28; rfl; exact qN; exact qT); (apply ol_nil))
      | (apply cw_cond_true; rfl; exact qA)
      | (apply cw_cond_false; rfl; exact qA)
      | apply cw_skip
      | apply cw_ret
      | apply cw_block
      | apply cw_exit
    exact endsW [rdB rb a n c k] [] View.nil RVal.nil (by exact qK) (View.nil_le _) (View.freshM_nil _ _) (fun F _ _ => rfl)
  · rw [if_neg h]
    repeat' first
      | apply cw_seq
      | (refine cw_region_id 0 ?_; (apply ol_mv; rfl; rfl); (apply ol_val; rfl; apply stp_pur; apply s_nilCheck; rfl); (apply ol_fa; rfl; rfl; exact fd_60_1; exact qZ); (apply ol_ld; rfl; rfl; rfl; exact qP); (apply ol_val; rfl; apply stp_cmp; apply s_eql; rfl; rfl; all_goals (intro hc8; try (exfalso; (first | exact hc8 rfl | omega)))); all_goals (apply ol_nil))
      | (apply cw_cond_true; rfl; exact qA)
      | (apply cw_cond_false; rfl; exact qA)
      | apply cw_skip
      | apply cw_ret
      | apply cw_block
      | apply cw_exit
    exact endsW [rdB rb a n c e] [] View.nil RVal.nil (by exact qK) (View.nil_le _) (View.freshM_nil _ _) (fun F _ _ => rfl)
theorem take_ok {M : View} {w : World} (hM : View.le M (View.of w)) {rb : Nat} {a : Option Addr} {n c k : Nat} (hok : ∀ x ∈ [rdB rb a n c 0], x.ok w) (hsep : ∀ x ∈ [rdB rb a n c 0], ∀ b, x.ref = some b → M b = none) (hnd : (refs [rdB rb a n c 0]).Nodup) (hk : k ≤ n) (hc : n ≤ c) :
    FnM Tryd.prog 49 [.pointer (some ⟨rb, 0, none⟩), .int .i64 (k : Nat)] w [rdB rb a n c 0] (fun v _ ys => v = .slice (slicedA a 0 c 1) (k - 0) (c - 0) ∧ ys = [rdB rb (slicedA a k c 1) (n - k) (c - k) 0]) := by
  refine enterW (M := M) Tryd.func49 rfl rfl rfl rfl hM hok hsep hnd ?_
  repeat' first
    | apply cw_seq
    | (refine cw_region_id 0 ?_; (apply ol_as; rfl; rfl); (apply ol_nil))
    | (refine cw_region_id 1 ?_; (apply ol_mv; rfl; rfl); (apply ol_val; rfl; apply stp_pur; apply s_nilCheck; rfl); (apply ol_fa; rfl; rfl; exact fd_60_1; exact qZ); (apply ol_ld; rfl; rfl; rfl; exact qP); (apply ol_val; rfl; apply stp_cmp; apply s_neq; rfl; rfl; all_goals (intro hc10; try (exfalso; (first | exact hc10 rfl | omega)))); all_goals (apply ol_mv; rfl; rfl); all_goals (first | (apply ol_gskip; rfl; rfl; exact qA; rfl) | (apply ol_gval; rfl; rfl; rfl; exact qA; apply stp_pur; apply s_move; rfl)); all_goals (first | (apply ol_gskip; rfl; rfl; exact qA; rfl) | (apply ol_gval; rfl; rfl; rfl; exact qA; apply stp_pur; apply s_move; rfl)); all_goals (first | (apply ol_gskip; rfl; rfl; exact qA; rfl) | (apply ol_gval; rfl; rfl; rfl; exact qA; apply stp_pur; apply s_nilCheck; rfl)); all_goals (first | (apply ol_gskip; rfl; rfl; exact qA; rfl) | (apply ol_gval; rfl; rfl; rfl; exact qA; apply stp_pur; apply s_fieldAddr'; rfl; exact fd_60_0; exact qZ)); all_goals (first | (apply ol_gskip; rfl; rfl; exact qA; rfl) | (apply ol_gval; rfl; rfl; rfl; exact qA; apply stp_pur; apply s_load1; rfl; rfl; exact qP)); all_goals (first | (apply ol_gskip; rfl; rfl; exact qA; rfl) | (apply ol_gval; rfl; rfl; rfl; exact qA; apply stp_pur; apply s_len; rfl; exact el_22)); all_goals (first | (apply ol_gskip; rfl; rfl; exact qA; rfl) | (apply ol_gval; rfl; rfl; rfl; exact qA; apply stp_cmp; apply s_gtr; rfl; rfl; all_goals (intro hc18; try (exfalso; (first | exact hc18 rfl | omega))))); all_goals (apply ol_val; rfl; apply stp_pur; first | (apply s_pick_t; rfl; exact qA; rfl) | (apply s_pick_f; rfl; exact qA; rfl)); all_goals (apply ol_nil))
    | (refine cw_region_id 4 ?_; (apply ol_mv; rfl; rfl); (apply ol_val; rfl; apply stp_pur; apply s_nilCheck; rfl); (apply ol_fa; rfl; rfl; exact fd_60_0; exact qZ); (apply ol_ld; rfl; rfl; rfl; exact qP); (apply ol_mv; rfl; rfl); (apply ol_val; rfl; apply stp_pur; apply s_slice; rfl; exact el_22; exact sz_5; rfl; (first | exact ⟨.i64, rfl⟩ | exact Exists.intro _ rfl); rfl; (intro h; first | rfl | cases h); exact qO; exact qO; exact qO); (apply ol_as; rfl; rfl); (apply ol_nil))
    | (refine cw_region_id 5 ?_; (apply ol_mv; rfl; rfl); (apply ol_mv; rfl; rfl); (apply ol_val; rfl; apply stp_pur; apply s_nilCheck; rfl); (apply ol_fa; rfl; rfl; exact fd_60_0; exact qZ); (apply ol_ld; rfl; rfl; rfl; exact qP); (apply ol_mv; rfl; rfl); (apply ol_val; rfl; apply stp_pur; apply s_slice; rfl; exact el_22; exact sz_5; (first | exact ⟨.i64, rfl⟩ | exact Exists.intro _ rfl); rfl; rfl; (intro h; first | rfl | cases h); exact qO; exact qO; exact qO); (apply ol_val; rfl; apply stp_pur; apply s_nilCheck; rfl); (apply ol_fa; rfl; rfl; exact fd_60_0; exact qZ); (apply ol_eff; apply s_store1; rfl; rfl; exact sz_22; rfl; exact qN; exact qT); (apply ol_nil))
    | (refine cw_region_id 6 ?_; (apply ol_mv; rfl; rfl); (apply ol_as; rfl; rfl); (apply ol_nil))
    | (apply cw_cond_true; rfl; exact qA)
    | (apply cw_cond_false; rfl; exact qA)
    | apply cw_skip
    | apply cw_ret
    | apply cw_block
    | apply cw_exit
  exact endsW [rdB rb (slicedA a k c 1) (n - k) (c - k) 0] [] View.nil (RVal.tmp rfl RVal.nil) (by exact qK) (View.nil_le _) (View.freshM_nil _ _) (fun F _ _ => ⟨rfl, rfl⟩)
theorem take_no {M : View} {w : World} (hM : View.le M (View.of w)) {rb : Nat} {a : Option Addr} {n c e k : Nat} (hok : ∀ x ∈ [rdB rb a n c e], x.ok w) (hsep : ∀ x ∈ [rdB rb a n c e], ∀ b, x.ref = some b → M b = none) (hnd : (refs [rdB rb a n c e]).Nodup) (hk : e ≠ 0 ∨ n < k) :
    FnM Tryd.prog 49 [.pointer (some ⟨rb, 0, none⟩), .int .i64 (k : Nat)] w [rdB rb a n c e] (fun v _ ys => v = .slice none 0 0 ∧ ys = [rdB rb a n c (fe e 4)]) := by
  refine enterW (M := M) Tryd.func49 rfl rfl rfl rfl hM hok hsep hnd ?_
  by_cases h : e = 0
  · subst h
    repeat' first
      | apply cw_seq
      | (refine cw_region_id 0 ?_; (apply ol_as; rfl; rfl); (apply ol_nil))
      | (refine cw_region_id 1 ?_; (apply ol_mv; rfl; rfl); (apply ol_val; rfl; apply stp_pur; apply s_nilCheck; rfl); (apply ol_fa; rfl; rfl; exact fd_60_1; exact qZ); (apply ol_ld; rfl; rfl; rfl; exact qP); (apply ol_val; rfl; apply stp_cmp; apply s_neq; rfl; rfl; all_goals (intro hc10; try (exfalso; (first | exact hc10 rfl | omega)))); all_goals (apply ol_mv; rfl; rfl); all_goals (first | (apply ol_gskip; rfl; rfl; exact qA; rfl) | (apply ol_gval; rfl; rfl; rfl; exact qA; apply stp_pur; apply s_move; rfl)); all_goals (first | (apply ol_gskip; rfl; rfl; exact qA; rfl) | (apply ol_gval; rfl; rfl; rfl; exact qA; apply stp_pur; apply s_move; rfl)); all_goals (first | (apply ol_gskip; rfl; rfl; exact qA; rfl) | (apply ol_gval; rfl; rfl; rfl; exact qA; apply stp_pur; apply s_nilCheck; rfl)); all_goals (first | (apply ol_gskip; rfl; rfl; exact qA; rfl) | (apply ol_gval; rfl; rfl; rfl; exact qA; apply stp_pur; apply s_fieldAddr'; rfl; exact fd_60_0; exact qZ)); all_goals (first | (apply ol_gskip; rfl; rfl; exact qA; rfl) | (apply ol_gval; rfl; rfl; rfl; exact qA; apply stp_pur; apply s_load1; rfl; rfl; exact qP)); all_goals (first | (apply ol_gskip; rfl; rfl; exact qA; rfl) | (apply ol_gval; rfl; rfl; rfl; exact qA; apply stp_pur; apply s_len; rfl; exact el_22)); all_goals (first | (apply ol_gskip; rfl; rfl; exact qA; rfl) | (apply ol_gval; rfl; rfl; rfl; exact qA; apply stp_cmp; apply s_gtr; rfl; rfl; all_goals (intro hc18; try (exfalso; (first | exact hc18 rfl | omega))))); all_goals (apply ol_val; rfl; apply stp_pur; first | (apply s_pick_t; rfl; exact qA; rfl) | (apply s_pick_f; rfl; exact qA; rfl)); all_goals (apply ol_nil))
      | (refine cw_region_id 2 ?_; (apply ol_mv; rfl; rfl); (apply ol_val; rfl; apply s_callM (xs := [rdB rb a n c 0]); rfl; exact gf_40; (focus ((repeat (first | exact Pk.nil | (apply Pk.cons; (repeat (first | exact Spl.here | apply Spl.there))))); done)); (intro w' M2 hw' hrd; exact fail_spec hw'.le hrd.ok (fun x hx b hb => View.none_of hrd.le (hrd.sep x hx b hb)) hrd.nd); (intro v F21 ys M21 h hl21 hL21 hF21; subst h)); (apply ol_nil))
      | (refine cw_region_id 3 ?_; (apply ol_as; rfl; rfl); (apply ol_nil))
      | (apply cw_cond_true; rfl; exact qA)
      | (apply cw_cond_false; rfl; exact qA)
      | apply cw_skip
      | apply cw_ret
      | apply cw_block
      | apply cw_exit
    exact endsW [rdB rb a n c (fe 0 4)] [] View.nil (RVal.tmp rfl RVal.nil) (by exact qK) (View.nil_le _) (View.freshM_nil _ _) (fun F _ _ => ⟨rfl, rfl⟩)
  ·
    repeat' first
      | apply cw_seq
      | (refine cw_region_id 0 ?_; (apply ol_as; rfl; rfl); (apply ol_nil))
      | (refine cw_region_id 1 ?_; (apply ol_mv; rfl; rfl); (apply ol_val; rfl; apply stp_pur; apply s_nilCheck; rfl); (apply ol_fa; rfl; rfl; exact fd_60_1; exact qZ); (apply ol_ld; rfl; rfl; rfl; exact qP); (apply ol_val; rfl; apply stp_cmp; apply s_neq; rfl; rfl; all_goals (intro hc10; try (exfalso; (first | exact hc10 rfl | omega)))); all_goals (apply ol_mv; rfl; rfl); all_goals (first | (apply ol_gskip; rfl; rfl; exact qA; rfl) | (apply ol_gval; rfl; rfl; rfl; exact qA; apply stp_pur; apply s_move; rfl)); all_goals (first | (apply ol_gskip; rfl; rfl; exact qA; rfl) | (apply ol_gval; rfl; rfl; rfl; exact qA; apply stp_pur; apply s_move; rfl)); all_goals (first | (apply ol_gskip; rfl; rfl; exact qA; rfl) | (apply ol_gval; rfl; rfl; rfl; exact qA; apply stp_pur; apply s_nilCheck; rfl)); all_goals (first | (apply ol_gskip; rfl; rfl; exact qA; rfl) | (apply ol_gval; rfl; rfl; rfl; exact qA; apply stp_pur; apply s_fieldAddr'; rfl; exact fd_60_0; exact qZ)); all_goals (first | (apply ol_gskip; rfl; rfl; exact qA; rfl) | (apply ol_gval; rfl; rfl; rfl; exact qA; apply stp_pur; apply s_load1; rfl; rfl; exact qP)); all_goals (first | (apply ol_gskip; rfl; rfl; exact qA; rfl) | (apply ol_gval; rfl; rfl; rfl; exact qA; apply stp_pur; apply s_len; rfl; exact el_22)); all_goals (first | (apply ol_gskip; rfl; rfl; exact qA; rfl) | (apply ol_gval; rfl; rfl; rfl; exact qA; apply stp_cmp; apply s_gtr; rfl; rfl; all_goals (intro hc18; try (exfalso; (first | exact hc18 rfl | omega))))); all_goals (apply ol_val; rfl; apply stp_pur; first | (apply s_pick_t; rfl; exact qA; rfl) | (apply s_pick_f; rfl; exact qA; rfl)); all_goals (apply ol_nil))
      | (refine cw_region_id 2 ?_; (apply ol_mv; rfl; rfl); (apply ol_val; rfl; apply s_callM (xs := [rdB rb a n c e]); rfl; exact gf_40; (focus ((repeat (first | exact Pk.nil | (apply Pk.cons; (repeat (first | exact Spl.here | apply Spl.there))))); done)); (intro w' M2 hw' hrd; exact fail_spec hw'.le hrd.ok (fun x hx b hb => View.none_of hrd.le (hrd.sep x hx b hb)) hrd.nd); (intro v F21 ys M21 h hl21 hL21 hF21; subst h)); (apply ol_nil))
      | (refine cw_region_id 3 ?_; (apply ol_as; rfl; rfl); (apply ol_nil))
      | (apply cw_cond_true; rfl; exact qA)
      | (apply cw_cond_false; rfl; exact qA)
      | apply cw_skip
      | apply cw_ret
      | apply cw_block
      | apply cw_exit
    exact endsW [rdB rb a n c (fe e 4)] [] View.nil (RVal.tmp rfl RVal.nil) (by exact qK) (View.nil_le _) (View.freshM_nil _ _) (fun F _ _ => ⟨rfl, rfl⟩)
theorem number_no {M : View} {w : World} (hM : View.le M (View.of w)) {rb : Nat} {a : Option Addr} {n c e k : Nat} (hok : ∀ x ∈ [rdB rb a n c e], x.ok w) (hsep : ∀ x ∈ [rdB rb a n c e], ∀ b, x.ref = some b → M b = none) (hnd : (refs [rdB rb a n c e]).Nodup) (hk : e ≠ 0 ∨ n < k) :
    FnM Tryd.prog 48 [.pointer (some ⟨rb, 0, none⟩), .int .i64 (k : Nat)] w [rdB rb a n c e] (fun v _ ys => v = .int .u64 0 ∧ ys = [rdB rb a n c (fe e 4)]) := by
  refine enterW (M := M) Tryd.func48 rfl rfl rfl rfl hM hok hsep hnd ?_
  repeat' first
    | apply cw_seq
    | (refine cw_region_id 0 ?_; (apply ol_as; rfl; rfl); (apply ol_nil))
    | (refine cw_region_id 1 ?_; (apply ol_as; rfl; rfl); (apply ol_nil))
    | (refine cw_region_id 2 ?_; (apply ol_mv; rfl; rfl); (apply ol_mv; rfl; rfl); (apply ol_val; rfl; apply s_callM (xs := [rdB rb a n c e]); rfl; exact gf_49; (focus ((repeat (first | exact Pk.nil | (apply Pk.cons; (repeat (first | exact Spl.here | apply Spl.there))))); done)); (intro w' M2 hw' hrd; exact take_no hw'.le hrd.ok (fun x hx b hb => View.none_of hrd.le (hrd.sep x hx b hb)) hrd.nd hk); (intro v F10 ys M10 h hl10 hL10 hF10; obtain ⟨rfl, rfl⟩ := h)); (apply ol_val; rfl; apply stp_pur; apply s_len; rfl; exact el_22); (apply ol_mv; rfl; rfl); (apply ol_nil))
    | (apply cw_cond_true; rfl; exact qA)
    | (apply cw_cond_false; rfl; exact qA)
    | apply cw_skip
    | apply cw_ret
    | apply cw_block
    | apply cw_exit
  refine cw_loopK (σ := Nat) [5, 10, 11] (by (repeat (first | exact Keep.nil | (apply Keep.cons; rfl)))) (fun i => [(12, .int .i64 i)]) (fun _ => M) (fun _ => [rdB rb a n c (fe e 4)]) (fun i => i = 0) (fun i => 1 - i) 0 (by (repeat (first | exact trivial | refine And.intro rfl ?_))) (by assumption) (by exact qK) rfl ?_
  rintro i rfl
  repeat' first
    | apply cw_seq
    | (refine cw_region_id 3 ?_; (apply ol_val; rfl; apply stp_cmp; apply s_lss; rfl; rfl; all_goals (intro hc13; try (exfalso; (first | exact hc13 rfl | omega)))); all_goals (apply ol_nil))
    | (refine cw_region_id 7 ?_; (apply ol_mv; rfl; rfl); (apply ol_as; rfl; rfl); (apply ol_nil))
    | (apply cw_cond_true; rfl; exact qA)
    | (apply cw_cond_false; rfl; exact qA)
    | apply cw_skip
    | apply cw_ret
    | apply cw_block
    | apply cw_exit
  exact endsW [rdB rb a n c (fe e 4)] [] View.nil (RVal.tmp rfl RVal.nil) (by exact qK) (View.nil_le _) (View.freshM_nil _ _) (fun F _ _ => ⟨rfl, rfl⟩)
theorem number_ok {M : View} {w : World} (hM : View.le M (View.of w)) {rb : Nat} {l : List Int} {a : Option Addr} {n c k : Nat} (hok : ∀ x ∈ [rdB rb a n c 0], x.ok w) (hsep : ∀ x ∈ [rdB rb a n c 0], ∀ b, x.ref = some b → M b = none) (hnd : (refs [rdB rb a n c 0]).Nodup) (hv : BV M l a n c) (hk : k ≤ n) (hk8 : k ≤ 8) :
    FnM Tryd.prog 48 [.pointer (some ⟨rb, 0, none⟩), .int .i64 (k : Nat)] w [rdB rb a n c 0] (fun v _ ys => v = .int .u64 (numB (l.take k) : Nat) ∧ ys = [rdB rb (slicedA a k c 1) (n - k) (c - k) 0]) := by
  have ht := hv.take hk
  have hc := hv.hc
  obtain ⟨⟨b, o, s⟩, hl, hcc, hb⟩ := ht
  generalize l.take k = z at *
  refine enterW (M := M) Tryd.func48 rfl rfl rfl rfl hM hok hsep hnd ?_
  repeat' first
    | apply cw_seq
    | (refine cw_region_id 0 ?_; (apply ol_as; rfl; rfl); (apply ol_nil))
    | (refine cw_region_id 1 ?_; (apply ol_as; rfl; rfl); (apply ol_nil))
    | (refine cw_region_id 2 ?_; (apply ol_mv; rfl; rfl); (apply ol_mv; rfl; rfl); (apply ol_val; rfl; apply s_callM (xs := [rdB rb a n c 0]); rfl; exact gf_49; (focus ((repeat (first | exact Pk.nil | (apply Pk.cons; (repeat (first | exact Spl.here | apply Spl.there))))); done)); (intro w' M2 hw' hrd; exact take_ok hw'.le hrd.ok (fun x hx b hb => View.none_of hrd.le (hrd.sep x hx b hb)) hrd.nd hk hc); (intro v F10 ys M10 h hl10 hL10 hF10; obtain ⟨rfl, rfl⟩ := h)); (apply ol_val; rfl; apply stp_pur; apply s_len; rfl; exact el_22); (apply ol_mv; rfl; rfl); (apply ol_nil))
    | (apply cw_cond_true; rfl; exact qA)
    | (apply cw_cond_false; rfl; exact qA)
    | apply cw_skip
    | apply cw_ret
    | apply cw_block
    | apply cw_exit
  refine cw_loopK (σ := Nat) [10, 11] (by (repeat (first | exact Keep.nil | (apply Keep.cons; rfl)))) (fun i => [(5, .int .u64 (numB (z.take i) : Nat)), (12, .int .i64 i)]) (fun _ => M) (fun _ => [rdB rb (slicedA a k c 1) (n - k) (c - k) 0]) (fun i => i ≤ z.length) (fun i => z.length - i) 0 (by rw [List.take_zero, numB_nil]; (repeat (first | exact trivial | refine And.intro rfl ?_))) (by assumption) (by exact qK) (Nat.zero_le _) ?_
  intro i hi
  have hki : k - 0 = z.length := hl.symm
  by_cases hin : i < z.length
  · have hci := s.cells i hin
    have hst := numB_take hin
    have hbi := hb z[i] (List.getElem_mem hin)
    have hlt : numB (z.take i) < 256 ^ i := by have := numB_lt (l := z.take i) (fun x hx => hb x (List.mem_of_mem_take hx)); rw [List.length_take, Nat.min_eq_left hi] at this; exact this
    have hp : 256 ^ i ≤ 256 ^ 7 := Nat.pow_le_pow_right (by decide) (by omega)
    have h7 : (256 : Nat) ^ 7 = 72057594037927936 := by decide
    have hor := or_byte64 (x := (numB (z.take i) : Nat)) (c := z[i]) (by omega) hbi
    have hval : 256 * ((numB (z.take i) : Nat) : Int) + z[i] = ((numB (z.take (i + 1)) : Nat) : Int) := by rw [hst]; omega
    rw [hval] at hor
    clear hst hval
    generalize z[i] = x at *
    repeat' first
      | apply cw_seq
      | (refine cw_region_id 3 ?_; (apply ol_val; rfl; apply stp_cmp; apply s_lss; rfl; rfl; all_goals (intro hc13; try (exfalso; (first | exact hc13 rfl | omega)))); all_goals (apply ol_nil))
      | (refine cw_region_id 4 ?_; (apply ol_val; rfl; apply stp_pur; first | (apply s_indexK; rfl; rfl; exact el_22; exact sz_5; (first | rfl | exact s.at_ (by omega)); omega) | (apply s_indexO; rfl; rfl; exact el_22; exact sz_5; (first | rfl | exact s.at_ (by omega)); omega)); (apply ol_ld; rfl; rfl; rfl; (first | exact qP | (apply RdN.view; exact hci))); (apply ol_as; rfl; rfl); (apply ol_nil))
      | (refine cw_region_id 5 ?_; (apply ol_mv; rfl; rfl); (apply ol_val; rfl; apply stp_pur; apply s_shlW; rfl; rfl; (first | decide | omega | (simp [IntKind.bits]; omega) | (simp [IntKind.bits]; done))); (apply ol_mv; rfl; rfl); (apply ol_val; rfl; apply stp_pur; first | (apply s_conv; rfl; rfl; exact ti_57; (focus (apply wrap_u64; omega))) | (apply s_conv; rfl; rfl; exact ti_57; exact wrap_u64 (by omega)) | (apply s_conv; rfl; rfl; exact ti_57; rfl)); (apply ol_val; rfl; apply stp_pur; apply s_orE; rfl; rfl; exact hor); (apply ol_as; rfl; rfl); (apply ol_nil))
      | (refine cw_region_id 6 ?_; (apply ol_val; rfl; apply stp_pur; apply s_add64; rfl; rfl; omega); (apply ol_mv; rfl; rfl); (apply ol_nil))
      | (apply cw_cond_true; rfl; exact qA)
      | (apply cw_cond_false; rfl; exact qA)
      | apply cw_skip
      | apply cw_ret
      | apply cw_block
      | apply cw_exit
    exact ⟨i + 1, ⟨by (repeat (first | exact trivial | refine And.intro rfl ?_)), View.le.refl _, by exact qK, hin, by omega⟩⟩
  · have : i = z.length := by omega
    subst this
    rw [List.take_length]
    repeat' first
      | apply cw_seq
      | (refine cw_region_id 3 ?_; (apply ol_val; rfl; apply stp_cmp; apply s_lss; rfl; rfl; all_goals (intro hc13; try (exfalso; (first | exact hc13 rfl | omega)))); all_goals (apply ol_nil))
      | (refine cw_region_id 7 ?_; (apply ol_mv; rfl; rfl); (apply ol_as; rfl; rfl); (apply ol_nil))
      | (apply cw_cond_true; rfl; exact qA)
      | (apply cw_cond_false; rfl; exact qA)
      | apply cw_skip
      | apply cw_ret
      | apply cw_block
      | apply cw_exit
    exact endsW [rdB rb (slicedA a k c 1) (n - k) (c - k) 0] [] View.nil (RVal.tmp rfl RVal.nil) (by exact qK) (View.nil_le _) (View.freshM_nil _ _) (fun F _ _ => ⟨rfl, rfl⟩)
end Go.Proofs.YtkkfgeekdaalmaaDoor
namespace Go.Proofs.YtkkfgeekdaalmaaDoor
set_option maxRecDepth 20000
set_option linter.unusedSimpArgs false
set_option linter.unusedVariables false
open Go Go.Fw
/-- What reading an item says. -/
def ItmR (d : Nat) (l : List Int) (M : View) (rb : Nat) (v : Value) (F : View) (ys : List OB) : Prop :=
  ∃ a' n' c' e rest, ∃ x : It d, v = .agg x.enc.toArray ∧ ys = [rdB rb a' n' c' e] ∧ rdE d l = (e, rest) ∧ (e = 0 → (∀ N, View.le M N → View.le F N → BV N rest a' n' c') ∧ (∀ N, View.le F N → ItV N d x) ∧ okR d x ∧ l = encI d x ++ rest)
def hdJ (k : Int) (Ba : Option Addr) (Bn Bc : Nat) (A : Option Addr) (m c : Nat) : Hd := ⟨k, 0, ⟨List.replicate Bn 0, Ba, 0, 0, Bc⟩, A, 0, 0, c, m⟩
theorem mkJ_enc (d : Nat) (k : Int) (Ba : Option Addr) (Bn Bc : Nat) (A : Option Addr) (m c : Nat) : (mkL d (hdJ k Ba Bn Bc A m c)).enc = [.int .i64 k, .int .i64 0, .slice Ba Bn Bc, .slice A m c] := by
  rw [mkL_enc]
  unfold hdJ
  dsimp only
  rw [List.length_replicate]
theorem ItmR.err {d : Nat} {l : List Int} {M F : View} {rb e n' c' : Nat} {a' : Option Addr} {k : Int} {Ba : Option Addr} {Bn Bc : Nat} {A : Option Addr} {m c : Nat} (h : rdE d l = (e, [])) (he : e ≠ 0) : ItmR d l M rb (.agg [.int .i64 k, .int .i64 0, .slice Ba Bn Bc, .slice A m c].toArray) F [rdB rb a' n' c' e] :=
  ⟨a', n', c', e, [], mkL d (hdJ k Ba Bn Bc A m c), by rw [mkJ_enc], rfl, h, fun h0 => absurd h0 he⟩
theorem numB_one {k : Int} {r : List Int} (h : 0 ≤ k) : ((numB ((k :: r).take 1) : Nat) : Int) = k := by
  rw [show (k :: r).take 1 = [k] by rw [List.take_succ_cons, List.take_zero], show numB [k] = 256 * 0 + k.toNat from rfl]
  omega
end Go.Proofs.YtkkfgeekdaalmaaDoor
namespace Go.Proofs.YtkkfgeekdaalmaaDoor
set_option maxRecDepth 20000
set_option linter.unusedSimpArgs false
set_option linter.unusedVariables false
open Go Go.Fw
attribute [local irreducible] CW OL OD FX Stp FnC FnV FnA FnM Ret bI encI okI numB rdE
set_option maxHeartbeats 1600000
theorem cloneB_spec {w : World} {M : View} (hM : View.le M (View.of w)) {xs : List Int} {n : Nat} (e1 : xs.length = n) {a : Option Addr} {b o c : Nat} (s : SlA M (eK .u8) 1 a xs b o) (hl : xs.length ≤ 4294967296) :
    FnC Tryd.prog 23 [.slice a n c] w (RowRes (eK .u8) 1 5 xs) := by
  subst e1
  refine enterF (M := M) Tryd.func23 rfl rfl rfl rfl hM ?_
  refine cw_none 5 ?_
  repeat' first
    | apply cw_seq
    | (refine cw_region_id 0 ?_; (apply ol_as; rfl; rfl); (apply ol_nil))
    | (refine cw_region_id 1 ?_; (apply ol_mv; rfl; rfl); (apply ol_val; rfl; apply stp_cmp; apply s_eqnil; rfl; exact el_22; all_goals (intro _; try (exfalso; (first | (rename_i hh; exact hh rfl) | omega)))); all_goals (apply ol_nil))
    | (refine cw_region_id 2 ?_; (apply ol_as; rfl; rfl); (apply ol_nil))
    | (refine cw_region_id 3 ?_; (apply ol_val; rfl; apply s_buildSl; rfl; exact el_22; exact sz_5; exact zb_5; exact qN; rfl; rfl; (exact Nat.le_of_ble_eq_true rfl); exact qN; exact qR; intro _); (apply ol_mv; rfl; rfl); (apply ol_val; rfl; first | (apply s_append_e; rfl; rfl; exact qN; exact el_22; exact sz_5; exact zb_5; rfl; exact by_5; (first | exact (fun _ => rfl) | (intro _; exact s.at_ (by omega))); (first | exact qQ | (apply RdN.view; exact SlA.all (eK_length .u8) s)); (first | rfl | exact ones_flat (eK_ones .u8) _); exact qO; exact qO; intro _ _ _ _) | (apply s_append_r; rfl; rfl; exact qN; (first | rfl | exact (List.append_nil _).symm); exact el_22; exact sz_5; exact zb_5; rfl; exact by_5; (first | exact SO.nil _ | assumption | (exact ⟨by simp, by simp, Nat.le_refl _, by simp⟩)); (first | exact (fun _ => rfl) | (intro _; exact s.at_ (by omega))); (first | exact qQ | (apply RdN.view; exact SlA.all (eK_length .u8) s)); (first | rfl | exact ones_flat (eK_ones .u8) _); exact qO; exact qO; intro _ _ _ _) | (apply s_append_b; rfl; rfl; exact qN; (first | rfl | exact (List.append_nil _).symm); exact el_22; exact sz_5; exact zb_5; rfl; exact by_5; (first | exact SO.nil _ | assumption | (exact ⟨by simp, by simp, Nat.le_refl _, by simp⟩)); (first | exact (fun _ => rfl) | (intro _; exact s.at_ (by omega))); (first | exact qQ | (apply RdN.view; exact SlA.all (eK_length .u8) s)); (first | rfl | exact ones_flat (eK_ones .u8) _); exact qO; exact qO; intro _ _ _ _) | (apply s_append_n; rfl; rfl; exact qN; exact el_22; exact sz_5; exact zb_5; rfl; exact by_5; (first | exact (fun _ => rfl) | (intro _; exact s.at_ (by omega))); (first | exact qQ | (apply RdN.view; exact SlA.all (eK_length .u8) s)); (first | rfl | exact ones_flat (eK_ones .u8) _); exact qO; exact qO; intro _ _ _ _)); (apply ol_as; rfl; rfl); (apply ol_nil))
    | (apply cw_cond_true; rfl; exact qA)
    | (apply cw_cond_false; rfl; exact qA)
    | apply cw_skip
    | apply cw_ret
    | apply cw_block
    | apply cw_exit
  · rename_i h
    have hx : xs = [] := by
      cases xs with
      | nil => rfl
      | cons x xs => have := s.at_ (by simp); rw [this] at h; cases h
    subst hx
    refine ends [⟨none, [], 5⟩] (by (repeat (first | exact RVal.nil | (apply RVal.tmp; rfl) | (apply RVal.cellN; rfl; rfl; (fail); apply RdN.own; (focus ((repeat (first | exact Has.here | apply Has.there)); done)); (focus ((repeat (first | exact GetN.nil | (apply GetN.cons; rfl))); done))) | (apply RVal.cell1; rfl; rfl; apply RdN.own; (focus ((repeat (first | exact Has.here | apply Has.there)); done)); exact qC)))) (by exact qK) ?_
    exact ⟨none, none, 0, [], rfl, rfl, SO.nil 1⟩
  · rename_i bb r sp cap so
    refine ends [⟨r, flat (eK .u8) xs ++ sp, 5⟩] (by (repeat (first | exact RVal.nil | (apply RVal.tmp; rfl) | (apply RVal.cellN; rfl; rfl; (fail); apply RdN.own; (focus ((repeat (first | exact Has.here | apply Has.there)); done)); (focus ((repeat (first | exact GetN.nil | (apply GetN.cons; rfl))); done))) | (apply RVal.cell1; rfl; rfl; apply RdN.own; (focus ((repeat (first | exact Has.here | apply Has.there)); done)); exact qC)))) (by exact qK) ?_
    exact ⟨r, none, cap, sp, rfl, rfl, so⟩
/-- No byte, or no kind. -/
theorem item_bad {M : View} {w : World} (hM : View.le M (View.of w)) {d rb : Nat} {l : List Int} {a : Option Addr} {n c : Nat} (hok : ∀ x ∈ [rdB rb a n c 0], x.ok w) (hsep : ∀ x ∈ [rdB rb a n c 0], ∀ b, x.ref = some b → M b = none) (hnd : (refs [rdB rb a n c 0]).Nodup) (hv : BV M l a n c)
    (hb : l = [] ∨ ∃ k r, l = k :: r ∧ (k < 1 ∨ 3 < k ∨ k = 3 ∧ d = 0)) :
    FnM Tryd.prog 39 [.pointer (some ⟨rb, 0, none⟩), .int .i64 (d : Nat)] w [rdB rb a n c 0] (ItmR d l M rb) := by
  refine enterW (M := M) Tryd.func39 rfl rfl rfl rfl hM hok hsep hnd ?_
  rcases hb with rfl | ⟨k, r, rfl, hb⟩
  · have hn : n = 0 := by have := hv.hn; simpa using this.symm
    have hre : rdE d [] = (4, []) := by unfold rdE; rfl
    repeat' first
      | apply cw_seq
      | (refine cw_region_id 0 ?_; (apply ol_val; rfl; apply s_alloc; exact zb_25; exact qN; intro bk4); (apply ol_nil))
      | (refine cw_region_id 1 ?_; (apply ol_mv; rfl; rfl); (apply ol_val; rfl; apply s_callM (xs := [rdB rb a n c 0]); rfl; exact gf_48; (focus ((repeat (first | exact Pk.nil | (apply Pk.cons; (repeat (first | exact Spl.here | apply Spl.there))))); done)); (intro w' M2 hw' hrd; exact number_no (k := 1) hw'.le hrd.ok (fun x hx b hb => View.none_of hrd.le (hrd.sep x hx b hb)) hrd.nd (.inr (by omega))); (intro v F9 ys M9 h hl9 hL9 hF9; obtain ⟨rfl, rfl⟩ := h)); (apply ol_val; rfl; apply stp_pur; first | (apply s_conv; rfl; rfl; exact ti_3; (focus (apply wrap_i64; omega))) | (apply s_conv; rfl; rfl; exact ti_3; rfl)); (apply ol_as; rfl; rfl); (apply ol_nil))
      | (refine cw_region_id 2 ?_; (apply ol_mv; rfl; rfl); (apply ol_val; rfl; apply stp_cmp; apply s_lss; rfl; rfl; all_goals (intro hc12; try (exfalso; (first | exact hc12 rfl | omega)))); all_goals (apply ol_mv; rfl; rfl); all_goals (first | (apply ol_gskip; rfl; rfl; exact qA; rfl) | (apply ol_gval; rfl; rfl; rfl; exact qA; apply stp_pur; apply s_move; rfl)); all_goals (first | (apply ol_gskip; rfl; rfl; exact qA; rfl) | (apply ol_gval; rfl; rfl; rfl; exact qA; apply stp_cmp; apply s_gtr; rfl; rfl; all_goals (intro hc15; try (exfalso; (first | exact hc15 rfl | omega))))); all_goals (apply ol_val; rfl; apply stp_pur; first | (apply s_pick_t; rfl; exact qA; rfl) | (apply s_pick_f; rfl; exact qA; rfl)); all_goals (apply ol_mv; rfl; rfl); all_goals (first | (apply ol_gskip; rfl; rfl; exact qA; rfl) | (apply ol_gval; rfl; rfl; rfl; exact qA; apply stp_pur; apply s_move; rfl)); all_goals (first | (apply ol_gskip; rfl; rfl; exact qA; rfl) | (apply ol_gval; rfl; rfl; rfl; exact qA; apply stp_cmp; apply s_eql; rfl; rfl; all_goals (intro hc19; try (exfalso; (first | exact hc19 rfl | omega))))); all_goals (first | (apply ol_gskip; rfl; rfl; exact qA; rfl) | (apply ol_gval; rfl; rfl; rfl; exact qA; apply stp_pur; apply s_move; rfl)); all_goals (first | (apply ol_gskip; rfl; rfl; exact qA; rfl) | (apply ol_gskipu; rfl; rfl; rfl) | (apply ol_gval; rfl; rfl; rfl; exact qA; apply stp_pur; apply s_move; rfl)); all_goals (first | (apply ol_gskip; rfl; rfl; exact qA; rfl) | (apply ol_gskipu; rfl; rfl; rfl) | (apply ol_gval; rfl; rfl; rfl; exact qA; apply stp_cmp; apply s_eql; rfl; rfl; all_goals (intro hc22; try (exfalso; (first | exact hc22 rfl | omega))))); all_goals (first | (apply ol_gskip; rfl; rfl; exact qA; rfl) | (apply ol_gval; rfl; rfl; rfl; exact qA; apply stp_pur; first | (apply s_pick_t; rfl; exact qA; rfl) | (apply s_pick_f; rfl; exact qA; rfl))); all_goals (apply ol_val; rfl; apply stp_pur; first | (apply s_pick_t; rfl; exact qA; rfl) | (apply s_pick_f; rfl; exact qA; rfl)); all_goals (apply ol_nil))
      | (refine cw_region_id 3 ?_; (apply ol_mv; rfl; rfl); (apply ol_val; rfl; apply s_callM (xs := [rdB rb a n c (fe 0 4)]); rfl; exact gf_40; (focus ((repeat (first | exact Pk.nil | (apply Pk.cons; (repeat (first | exact Spl.here | apply Spl.there))))); done)); (intro w' M2 hw' hrd; exact fail_spec (k := 3) hw'.le hrd.ok (fun x hx b hb => View.none_of hrd.le (hrd.sep x hx b hb)) hrd.nd); (intro v F26 ys M26 h hl26 hL26 hF26; subst h)); (apply ol_nil))
      | (refine cw_region_id 4 ?_; (apply ol_val; rfl; apply stp_pur; apply s_buildS; rfl; exact fs_25; exact zb_25; exact qR); (apply ol_eff; apply s_storeN; rfl; rfl; exact sz_25; rfl; rfl; exact qN; exact qN); (apply ol_nil))
      | (apply cw_cond_true; rfl; exact qA)
      | (apply cw_cond_false; rfl; exact qA)
      | apply cw_skip
      | apply cw_ret
      | apply cw_block
      | apply cw_exit
    refine endsW [rdB rb a n c (fe (fe 0 4) 3)] [] View.nil (RVal.cellN rfl rfl rfl (RdN.own (by (repeat (first | exact Has.here | apply Has.there))) (by focus ((repeat (first | rfl | constructor)); done))) RVal.nil) (by exact qK) (View.nil_le _) (View.freshM_nil _ _) (fun F _ _ => ?_)
    exact ItmR.err (e := 4) hre (by decide)
  · have hn : 1 ≤ n := by have := hv.hn; rw [List.length_cons] at this; omega
    have hk := hv.hb k (List.mem_cons_self ..)
    have hre : rdE d (k :: r) = (3, []) := by unfold rdE; rw [if_pos hb]
    have k1 := fun (w' : World) (h : View.le M (View.of w')) hx1 hx2 hx3 => number_ok (rb := rb) h hx1 hx2 hx3 hv (k := 1) hn (by omega)
    rw [numB_one hk.1] at k1
    repeat' first
      | apply cw_seq
      | (refine cw_region_id 0 ?_; (apply ol_val; rfl; apply s_alloc; exact zb_25; exact qN; intro bk4); (apply ol_nil))
      | (refine cw_region_id 1 ?_; (apply ol_mv; rfl; rfl); (apply ol_val; rfl; apply s_callM (xs := [rdB rb a n c 0]); rfl; exact gf_48; (focus ((repeat (first | exact Pk.nil | (apply Pk.cons; (repeat (first | exact Spl.here | apply Spl.there))))); done)); (intro w' M2 hw' hrd; exact k1 w' hw'.le hrd.ok (fun x hx b hb => View.none_of hrd.le (hrd.sep x hx b hb)) hrd.nd); (intro v F9 ys M9 h hl9 hL9 hF9; obtain ⟨rfl, rfl⟩ := h)); (apply ol_val; rfl; apply stp_pur; first | (apply s_conv; rfl; rfl; exact ti_3; (focus (apply wrap_i64; omega))) | (apply s_conv; rfl; rfl; exact ti_3; exact wrap_i64 (by omega)) | (apply s_conv; rfl; rfl; exact ti_3; rfl)); (apply ol_as; rfl; rfl); (apply ol_nil))
      | (refine cw_region_id 2 ?_; (apply ol_mv; rfl; rfl); (apply ol_val; rfl; apply stp_cmp; apply s_lss; rfl; rfl; all_goals (intro hc12; try (exfalso; (first | exact hc12 rfl | omega)))); all_goals (apply ol_mv; rfl; rfl); all_goals (first | (apply ol_gskip; rfl; rfl; exact qA; rfl) | (apply ol_gval; rfl; rfl; rfl; exact qA; apply stp_pur; apply s_move; rfl)); all_goals (first | (apply ol_gskip; rfl; rfl; exact qA; rfl) | (apply ol_gval; rfl; rfl; rfl; exact qA; apply stp_cmp; apply s_gtr; rfl; rfl; all_goals (intro hc15; try (exfalso; (first | exact hc15 rfl | omega))))); all_goals (apply ol_val; rfl; apply stp_pur; first | (apply s_pick_t; rfl; exact qA; rfl) | (apply s_pick_f; rfl; exact qA; rfl)); all_goals (apply ol_mv; rfl; rfl); all_goals (first | (apply ol_gskip; rfl; rfl; exact qA; rfl) | (apply ol_gval; rfl; rfl; rfl; exact qA; apply stp_pur; apply s_move; rfl)); all_goals (first | (apply ol_gskip; rfl; rfl; exact qA; rfl) | (apply ol_gval; rfl; rfl; rfl; exact qA; apply stp_cmp; apply s_eql; rfl; rfl; all_goals (intro hc19; try (exfalso; (first | exact hc19 rfl | omega))))); all_goals (first | (apply ol_gskip; rfl; rfl; exact qA; rfl) | (apply ol_gval; rfl; rfl; rfl; exact qA; apply stp_pur; apply s_move; rfl)); all_goals (first | (apply ol_gskip; rfl; rfl; exact qA; rfl) | (apply ol_gskipu; rfl; rfl; rfl) | (apply ol_gval; rfl; rfl; rfl; exact qA; apply stp_pur; apply s_move; rfl)); all_goals (first | (apply ol_gskip; rfl; rfl; exact qA; rfl) | (apply ol_gskipu; rfl; rfl; rfl) | (apply ol_gval; rfl; rfl; rfl; exact qA; apply stp_cmp; apply s_eql; rfl; rfl; all_goals (intro hc22; try (exfalso; (first | exact hc22 rfl | omega))))); all_goals (first | (apply ol_gskip; rfl; rfl; exact qA; rfl) | (apply ol_gval; rfl; rfl; rfl; exact qA; apply stp_pur; first | (apply s_pick_t; rfl; exact qA; rfl) | (apply s_pick_f; rfl; exact qA; rfl))); all_goals (apply ol_val; rfl; apply stp_pur; first | (apply s_pick_t; rfl; exact qA; rfl) | (apply s_pick_f; rfl; exact qA; rfl)); all_goals (apply ol_nil))
      | (refine cw_region_id 3 ?_; (apply ol_mv; rfl; rfl); (apply ol_val; rfl; apply s_callM (xs := [rdB rb (slicedA a 1 c 1) (n - 1) (c - 1) 0]); rfl; exact gf_40; (focus ((repeat (first | exact Pk.nil | (apply Pk.cons; (repeat (first | exact Spl.here | apply Spl.there))))); done)); (intro w' M2 hw' hrd; exact fail_spec (k := 3) hw'.le hrd.ok (fun x hx b hb => View.none_of hrd.le (hrd.sep x hx b hb)) hrd.nd); (intro v F26 ys M26 h hl26 hL26 hF26; subst h)); (apply ol_nil))
      | (refine cw_region_id 4 ?_; (apply ol_val; rfl; apply stp_pur; apply s_buildS; rfl; exact fs_25; exact zb_25; exact qR); (apply ol_eff; apply s_storeN; rfl; rfl; exact sz_25; rfl; rfl; exact qN; exact qN); (apply ol_nil))
      | (apply cw_cond_true; rfl; exact qA)
      | (apply cw_cond_false; rfl; exact qA)
      | apply cw_skip
      | apply cw_ret
      | apply cw_block
      | apply cw_exit
    all_goals
      refine endsW [rdB rb (slicedA a 1 c 1) (n - 1) (c - 1) (fe 0 3)] [] View.nil (RVal.cellN rfl rfl rfl (RdN.own (by (repeat (first | exact Has.here | apply Has.there))) (by focus ((repeat (first | rfl | constructor)); done))) RVal.nil) (by exact qK) (View.nil_le _) (View.freshM_nil _ _) (fun F _ _ => ?_)
      exact ItmR.err (e := 3) hre (by decide)
/-- An integer. -/
theorem item_int {M : View} {w : World} (hM : View.le M (View.of w)) {d rb : Nat} {r : List Int} {a : Option Addr} {n c : Nat} (hok : ∀ x ∈ [rdB rb a n c 0], x.ok w) (hsep : ∀ x ∈ [rdB rb a n c 0], ∀ b, x.ref = some b → M b = none) (hnd : (refs [rdB rb a n c 0]).Nodup) (hv : BV M (1 :: r) a n c) :
    FnM Tryd.prog 39 [.pointer (some ⟨rb, 0, none⟩), .int .i64 (d : Nat)] w [rdB rb a n c 0] (ItmR d (1 :: r) M rb) := by
  have hn : 1 ≤ n := by have := hv.hn; rw [List.length_cons] at this; omega
  have hrl : r.length = n - 1 := by have := hv.hn; rw [List.length_cons] at this; omega
  have k1 := fun (w' : World) (h : View.le M (View.of w')) hx1 hx2 hx3 => number_ok (rb := rb) h hx1 hx2 hx3 hv (k := 1) hn (by omega)
  rw [numB_one (by omega)] at k1
  have hv1 : BV M r (slicedA a 1 c 1) (n - 1) (c - 1) := hv.drop hn
  refine enterW (M := M) Tryd.func39 rfl rfl rfl rfl hM hok hsep hnd ?_
  by_cases h8 : r.length < 8
  · have hre : rdE d (1 :: r) = (4, []) := by unfold rdE; rw [if_neg (by omega), if_pos (.inl ⟨rfl, h8⟩)]
    repeat' first
      | apply cw_seq
      | (refine cw_region_id 0 ?_; (apply ol_val; rfl; apply s_alloc; exact zb_25; exact qN; intro bk4); (apply ol_nil))
      | (refine cw_region_id 1 ?_; (apply ol_mv; rfl; rfl); (apply ol_val; rfl; first | (apply s_callM (xs := [rdB rb a n c 0]); rfl; exact gf_48; (focus ((repeat (first | exact Pk.nil | (apply Pk.cons; (repeat (first | exact Spl.here | apply Spl.there))))); done)); (intro w' M2 hw' hrd; exact k1 w' (hw'.le) hrd.ok (fun x hx b hb => View.none_of (hrd.le) (hrd.sep x hx b hb)) hrd.nd); (intro v F9 ys M9 h hl9 hL9 hF9; obtain ⟨rfl, rfl⟩ := h)) | (apply s_callM (xs := [rdB rb (slicedA a 1 c 1) (n - 1) (c - 1) 0]); rfl; exact gf_48; (focus ((repeat (first | exact Pk.nil | (apply Pk.cons; (repeat (first | exact Spl.here | apply Spl.there))))); done)); (intro w' M2 hw' hrd; exact number_no (k := 8) (hl9.trans (hw'.le)) hrd.ok (fun x hx b hb => View.none_of (hl9.trans (hrd.le)) (hrd.sep x hx b hb)) hrd.nd (.inr (by omega))); (intro v F9 ys M9 h hl9 hL9 hF9; obtain ⟨rfl, rfl⟩ := h))); (apply ol_val; rfl; apply stp_pur; first | (apply s_conv; rfl; rfl; exact ti_3; (focus (apply wrap_i64; omega))) | (apply s_conv; rfl; rfl; exact ti_3; exact wrap_i64 (by omega)) | (apply s_conv; rfl; rfl; exact ti_3; rfl)); (apply ol_as; rfl; rfl); (apply ol_nil))
      | (refine cw_region_id 2 ?_; (apply ol_mv; rfl; rfl); (apply ol_val; rfl; apply stp_cmp; apply s_lss; rfl; rfl; all_goals (intro hc12; try (exfalso; (first | exact hc12 rfl | omega)))); all_goals (apply ol_mv; rfl; rfl); all_goals (first | (apply ol_gskip; rfl; rfl; exact qA; rfl) | (apply ol_gval; rfl; rfl; rfl; exact qA; apply stp_pur; apply s_move; rfl)); all_goals (first | (apply ol_gskip; rfl; rfl; exact qA; rfl) | (apply ol_gval; rfl; rfl; rfl; exact qA; apply stp_cmp; apply s_gtr; rfl; rfl; all_goals (intro hc15; try (exfalso; (first | exact hc15 rfl | omega))))); all_goals (apply ol_val; rfl; apply stp_pur; first | (apply s_pick_t; rfl; exact qA; rfl) | (apply s_pick_f; rfl; exact qA; rfl)); all_goals (apply ol_mv; rfl; rfl); all_goals (first | (apply ol_gskip; rfl; rfl; exact qA; rfl) | (apply ol_gval; rfl; rfl; rfl; exact qA; apply stp_pur; apply s_move; rfl)); all_goals (first | (apply ol_gskip; rfl; rfl; exact qA; rfl) | (apply ol_gval; rfl; rfl; rfl; exact qA; apply stp_cmp; apply s_eql; rfl; rfl; all_goals (intro hc19; try (exfalso; (first | exact hc19 rfl | omega))))); all_goals (first | (apply ol_gskip; rfl; rfl; exact qA; rfl) | (apply ol_gval; rfl; rfl; rfl; exact qA; apply stp_pur; apply s_move; rfl)); all_goals (first | (apply ol_gskip; rfl; rfl; exact qA; rfl) | (apply ol_gskipu; rfl; rfl; rfl) | (apply ol_gval; rfl; rfl; rfl; exact qA; apply stp_pur; apply s_move; rfl)); all_goals (first | (apply ol_gskip; rfl; rfl; exact qA; rfl) | (apply ol_gskipu; rfl; rfl; rfl) | (apply ol_gval; rfl; rfl; rfl; exact qA; apply stp_cmp; apply s_eql; rfl; rfl; all_goals (intro hc22; try (exfalso; (first | exact hc22 rfl | omega))))); all_goals (first | (apply ol_gskip; rfl; rfl; exact qA; rfl) | (apply ol_gval; rfl; rfl; rfl; exact qA; apply stp_pur; first | (apply s_pick_t; rfl; exact qA; rfl) | (apply s_pick_f; rfl; exact qA; rfl))); all_goals (apply ol_val; rfl; apply stp_pur; first | (apply s_pick_t; rfl; exact qA; rfl) | (apply s_pick_f; rfl; exact qA; rfl)); all_goals (apply ol_nil))
      | (refine cw_region_id 5 ?_; (apply ol_mv; rfl; rfl); (apply ol_val; rfl; apply stp_pur; apply s_buildS; rfl; exact fs_25; exact zb_25; exact qR); (apply ol_val; rfl; apply s_alloc; exact zb_25; exact qN; intro bk6); (apply ol_eff; apply s_storeN; rfl; rfl; exact sz_25; rfl; rfl; exact qN; exact qN); (apply ol_nil))
      | (refine cw_region_id 6 ?_; (apply ol_mv; rfl; rfl); (apply ol_nil))
      | (refine cw_region_id 7 ?_; (apply ol_val; rfl; apply stp_cmp; apply s_eql; rfl; rfl; all_goals (intro hc32; try (exfalso; (first | exact hc32 rfl | omega)))); all_goals (apply ol_as; rfl; rfl); all_goals (apply ol_nil))
      | (refine cw_region_id 8 ?_; (apply ol_mv; rfl; rfl); (apply ol_val; rfl; first | (apply s_callM (xs := [rdB rb a n c 0]); rfl; exact gf_48; (focus ((repeat (first | exact Pk.nil | (apply Pk.cons; (repeat (first | exact Spl.here | apply Spl.there))))); done)); (intro w' M2 hw' hrd; exact k1 w' (hw'.le) hrd.ok (fun x hx b hb => View.none_of (hrd.le) (hrd.sep x hx b hb)) hrd.nd); (intro v F34 ys M34 h hl34 hL34 hF34; obtain ⟨rfl, rfl⟩ := h)) | (apply s_callM (xs := [rdB rb (slicedA a 1 c 1) (n - 1) (c - 1) 0]); rfl; exact gf_48; (focus ((repeat (first | exact Pk.nil | (apply Pk.cons; (repeat (first | exact Spl.here | apply Spl.there))))); done)); (intro w' M2 hw' hrd; exact number_no (k := 8) (hl9.trans (hw'.le)) hrd.ok (fun x hx b hb => View.none_of (hl9.trans (hrd.le)) (hrd.sep x hx b hb)) hrd.nd (.inr (by omega))); (intro v F34 ys M34 h hl34 hL34 hF34; obtain ⟨rfl, rfl⟩ := h))); (apply ol_val; rfl; apply stp_pur; first | (apply s_conv; rfl; rfl; exact ti_3; (focus (apply wrap_i64; omega))) | (apply s_conv; rfl; rfl; exact ti_3; exact wrap_i64 (by omega)) | (apply s_conv; rfl; rfl; exact ti_3; rfl)); (apply ol_fa; rfl; rfl; exact fd_25_1; exact qZ); (apply ol_eff; apply s_store1; rfl; rfl; exact sz_3; rfl; exact qN; exact qT); (apply ol_nil))
      | (refine cw_region_id 20 ?_; (apply ol_ldN; rfl; rfl; rfl; exact sz_25; exact qQ); (apply ol_eff; apply s_storeN; rfl; rfl; exact sz_25; rfl; rfl; exact qN; exact qN); (apply ol_nil))
      | (apply cw_cond_true; rfl; exact qA)
      | (apply cw_cond_false; rfl; exact qA)
      | apply cw_skip
      | apply cw_ret
      | apply cw_block
      | apply cw_exit
    refine endsW [rdB rb (slicedA a 1 c 1) (n - 1) (c - 1) (fe 0 4)] [] View.nil (RVal.cellN rfl rfl rfl (RdN.own (by (repeat (first | exact Has.here | apply Has.there))) (by focus ((repeat (first | rfl | constructor)); done))) RVal.nil) (by exact qK) (View.nil_le _) (View.freshM_nil _ _) (fun F _ _ => ?_)
    exact ItmR.err (e := 4) hre (by decide)
  · have hre : rdE d (1 :: r) = (0, r.drop 8) := by unfold rdE; rw [if_neg (by omega), if_neg (by omega), if_pos rfl]
    have k8 := fun (w' : World) (h : View.le M (View.of w')) hx1 hx2 hx3 => number_ok (rb := rb) h hx1 hx2 hx3 hv1 (k := 8) (by omega) (by omega)
    have hv9 := hv1.drop (k := 8) (by omega)
    have ht8 : (r.take 8).length = 8 := by rw [List.length_take]; omega
    have hb8 : ∀ x ∈ r.take 8, 0 ≤ x ∧ x ≤ 255 := fun x hx => hv1.hb x (List.mem_of_mem_take hx)
    have hlt := numB_lt hb8
    have hbi := bI_numB hb8
    rw [ht8] at hlt hbi
    have hu := u64_i64 (N := numB (r.take 8)) (by have : (256 : Nat) ^ 8 = 18446744073709551616 := by decide
                                                  omega)
    have hcv : IntKind.i64.wrap ((numB (r.take 8) : Nat) : Int) = IntKind.i64.wrap ((numB (r.take 8) : Nat) : Int) := rfl
    generalize hN : IntKind.i64.wrap ((numB (r.take 8) : Nat) : Int) = N at *
    repeat' first
      | apply cw_seq
      | (refine cw_region_id 0 ?_; (apply ol_val; rfl; apply s_alloc; exact zb_25; exact qN; intro bk4); (apply ol_nil))
      | (refine cw_region_id 1 ?_; (apply ol_mv; rfl; rfl); (apply ol_val; rfl; first | (apply s_callM (xs := [rdB rb a n c 0]); rfl; exact gf_48; (focus ((repeat (first | exact Pk.nil | (apply Pk.cons; (repeat (first | exact Spl.here | apply Spl.there))))); done)); (intro w' M2 hw' hrd; exact k1 w' (hw'.le) hrd.ok (fun x hx b hb => View.none_of (hrd.le) (hrd.sep x hx b hb)) hrd.nd); (intro v F9 ys M9 h hl9 hL9 hF9; obtain ⟨rfl, rfl⟩ := h)) | (apply s_callM (xs := [rdB rb (slicedA a 1 c 1) (n - 1) (c - 1) 0]); rfl; exact gf_48; (focus ((repeat (first | exact Pk.nil | (apply Pk.cons; (repeat (first | exact Spl.here | apply Spl.there))))); done)); (intro w' M2 hw' hrd; exact k8 w' (hl9.trans (hw'.le)) hrd.ok (fun x hx b hb => View.none_of (hl9.trans (hrd.le)) (hrd.sep x hx b hb)) hrd.nd); (intro v F9 ys M9 h hl9 hL9 hF9; obtain ⟨rfl, rfl⟩ := h))); (apply ol_val; rfl; apply stp_pur; first | (apply s_conv; rfl; rfl; exact ti_3; (focus (apply wrap_i64; omega))) | (apply s_conv; rfl; rfl; exact ti_3; exact wrap_i64 (by omega)) | (apply s_conv; rfl; rfl; exact ti_3; exact hN) | (apply s_conv; rfl; rfl; exact ti_3; rfl)); (apply ol_as; rfl; rfl); (apply ol_nil))
      | (refine cw_region_id 2 ?_; (apply ol_mv; rfl; rfl); (apply ol_val; rfl; apply stp_cmp; apply s_lss; rfl; rfl; all_goals (intro hc12; try (exfalso; (first | exact hc12 rfl | omega)))); all_goals (apply ol_mv; rfl; rfl); all_goals (first | (apply ol_gskip; rfl; rfl; exact qA; rfl) | (apply ol_gval; rfl; rfl; rfl; exact qA; apply stp_pur; apply s_move; rfl)); all_goals (first | (apply ol_gskip; rfl; rfl; exact qA; rfl) | (apply ol_gval; rfl; rfl; rfl; exact qA; apply stp_cmp; apply s_gtr; rfl; rfl; all_goals (intro hc15; try (exfalso; (first | exact hc15 rfl | omega))))); all_goals (apply ol_val; rfl; apply stp_pur; first | (apply s_pick_t; rfl; exact qA; rfl) | (apply s_pick_f; rfl; exact qA; rfl)); all_goals (apply ol_mv; rfl; rfl); all_goals (first | (apply ol_gskip; rfl; rfl; exact qA; rfl) | (apply ol_gval; rfl; rfl; rfl; exact qA; apply stp_pur; apply s_move; rfl)); all_goals (first | (apply ol_gskip; rfl; rfl; exact qA; rfl) | (apply ol_gval; rfl; rfl; rfl; exact qA; apply stp_cmp; apply s_eql; rfl; rfl; all_goals (intro hc19; try (exfalso; (first | exact hc19 rfl | omega))))); all_goals (first | (apply ol_gskip; rfl; rfl; exact qA; rfl) | (apply ol_gval; rfl; rfl; rfl; exact qA; apply stp_pur; apply s_move; rfl)); all_goals (first | (apply ol_gskip; rfl; rfl; exact qA; rfl) | (apply ol_gskipu; rfl; rfl; rfl) | (apply ol_gval; rfl; rfl; rfl; exact qA; apply stp_pur; apply s_move; rfl)); all_goals (first | (apply ol_gskip; rfl; rfl; exact qA; rfl) | (apply ol_gskipu; rfl; rfl; rfl) | (apply ol_gval; rfl; rfl; rfl; exact qA; apply stp_cmp; apply s_eql; rfl; rfl; all_goals (intro hc22; try (exfalso; (first | exact hc22 rfl | omega))))); all_goals (first | (apply ol_gskip; rfl; rfl; exact qA; rfl) | (apply ol_gval; rfl; rfl; rfl; exact qA; apply stp_pur; first | (apply s_pick_t; rfl; exact qA; rfl) | (apply s_pick_f; rfl; exact qA; rfl))); all_goals (apply ol_val; rfl; apply stp_pur; first | (apply s_pick_t; rfl; exact qA; rfl) | (apply s_pick_f; rfl; exact qA; rfl)); all_goals (apply ol_nil))
      | (refine cw_region_id 5 ?_; (apply ol_mv; rfl; rfl); (apply ol_val; rfl; apply stp_pur; apply s_buildS; rfl; exact fs_25; exact zb_25; exact qR); (apply ol_val; rfl; apply s_alloc; exact zb_25; exact qN; intro bk6); (apply ol_eff; apply s_storeN; rfl; rfl; exact sz_25; rfl; rfl; exact qN; exact qN); (apply ol_nil))
      | (refine cw_region_id 6 ?_; (apply ol_mv; rfl; rfl); (apply ol_nil))
      | (refine cw_region_id 7 ?_; (apply ol_val; rfl; apply stp_cmp; apply s_eql; rfl; rfl; all_goals (intro hc32; try (exfalso; (first | exact hc32 rfl | omega)))); all_goals (apply ol_as; rfl; rfl); all_goals (apply ol_nil))
      | (refine cw_region_id 8 ?_; (apply ol_mv; rfl; rfl); (apply ol_val; rfl; first | (apply s_callM (xs := [rdB rb a n c 0]); rfl; exact gf_48; (focus ((repeat (first | exact Pk.nil | (apply Pk.cons; (repeat (first | exact Spl.here | apply Spl.there))))); done)); (intro w' M2 hw' hrd; exact k1 w' (hw'.le) hrd.ok (fun x hx b hb => View.none_of (hrd.le) (hrd.sep x hx b hb)) hrd.nd); (intro v F34 ys M34 h hl34 hL34 hF34; obtain ⟨rfl, rfl⟩ := h)) | (apply s_callM (xs := [rdB rb (slicedA a 1 c 1) (n - 1) (c - 1) 0]); rfl; exact gf_48; (focus ((repeat (first | exact Pk.nil | (apply Pk.cons; (repeat (first | exact Spl.here | apply Spl.there))))); done)); (intro w' M2 hw' hrd; exact k8 w' (hl9.trans (hw'.le)) hrd.ok (fun x hx b hb => View.none_of (hl9.trans (hrd.le)) (hrd.sep x hx b hb)) hrd.nd); (intro v F34 ys M34 h hl34 hL34 hF34; obtain ⟨rfl, rfl⟩ := h))); (apply ol_val; rfl; apply stp_pur; first | (apply s_conv; rfl; rfl; exact ti_3; (focus (apply wrap_i64; omega))) | (apply s_conv; rfl; rfl; exact ti_3; exact wrap_i64 (by omega)) | (apply s_conv; rfl; rfl; exact ti_3; exact hN) | (apply s_conv; rfl; rfl; exact ti_3; rfl)); (apply ol_fa; rfl; rfl; exact fd_25_1; exact qZ); (apply ol_eff; apply s_store1; rfl; rfl; exact sz_3; rfl; exact qN; exact qT); (apply ol_nil))
      | (refine cw_region_id 20 ?_; (apply ol_ldN; rfl; rfl; rfl; exact sz_25; exact qQ); (apply ol_eff; apply s_storeN; rfl; rfl; exact sz_25; rfl; rfl; exact qN; exact qN); (apply ol_nil))
      | (apply cw_cond_true; rfl; exact qA)
      | (apply cw_cond_false; rfl; exact qA)
      | apply cw_skip
      | apply cw_ret
      | apply cw_block
      | apply cw_exit
    refine endsW [rdB rb (slicedA (slicedA a 1 c 1) 8 (c - 1) 1) (n - 1 - 8) (c - 1 - 8) 0] [] View.nil (RVal.cellN rfl rfl rfl (RdN.own (by (repeat (first | exact Has.here | apply Has.there))) (by focus ((repeat (first | rfl | constructor)); done))) RVal.nil) (by exact qK) (View.nil_le _) (View.freshM_nil _ _) (fun F _ _ => ?_)
    refine ⟨_, _, _, 0, r.drop 8, mkL d (hdN N), by rw [mkL_enc]; rfl, rfl, hre, fun _ => ⟨fun _ hM' _ => hv9.mono hM', fun _ hF' => ItV.mkL ⟨SlA.none', fun x hx => by simp [hdN] at hx, by simp [hdN], by simp [hdN]⟩ rfl d, ?_, ?_⟩⟩
    · exact ⟨by rw [okI_mkL (by show (1 : Int) ≠ 3; omega)]; rfl, rgI_mkL (by show -9223372036854775808 ≤ N ∧ N ≤ _; rw [← hN]; exact wrap_rg _) d⟩
    · rw [encI_mkL (by show (1 : Int) ≠ 3; omega), show encH (hdN N) = 1 :: bI 8 (u64 N) from rfl, hu, hbi, List.cons_append, List.take_append_drop]
/-- Bytes. -/
theorem item_bytes {M : View} {w : World} (hM : View.le M (View.of w)) {d rb : Nat} {r : List Int} {a : Option Addr} {n c : Nat} (hok : ∀ x ∈ [rdB rb a n c 0], x.ok w) (hsep : ∀ x ∈ [rdB rb a n c 0], ∀ b, x.ref = some b → M b = none) (hnd : (refs [rdB rb a n c 0]).Nodup) (hv : BV M (2 :: r) a n c) (hn47 : n ≤ 16384) :
    FnM Tryd.prog 39 [.pointer (some ⟨rb, 0, none⟩), .int .i64 (d : Nat)] w [rdB rb a n c 0] (ItmR d (2 :: r) M rb) := by
  have hn : 1 ≤ n := by have := hv.hn; rw [List.length_cons] at this; omega
  have hrl : r.length = n - 1 := by have := hv.hn; rw [List.length_cons] at this; omega
  have k1 := fun (w' : World) (h : View.le M (View.of w')) hx1 hx2 hx3 => number_ok (rb := rb) h hx1 hx2 hx3 hv (k := 1) hn (by omega)
  rw [numB_one (by omega)] at k1
  have hv1 : BV M r (slicedA a 1 c 1) (n - 1) (c - 1) := hv.drop hn
  refine enterW (M := M) Tryd.func39 rfl rfl rfl rfl hM hok hsep hnd ?_
  have kc := fun (w' : World) {xs : List Int} {a : Option Addr} {n b o c : Nat} (h : View.le M (View.of w')) (hl : xs.length ≤ 16384) (hn : xs.length = n) (s : SlA M (eK .u8) 1 a xs b o) => cloneB_spec h hn (c := c) s (by omega)
  by_cases h4 : r.length < 4
  · have hre : rdE d (2 :: r) = (4, []) := by unfold rdE; rw [if_neg (by omega), if_pos (.inr h4)]
    repeat' first
      | apply cw_seq
      | (refine cw_region_id 0 ?_; (apply ol_val; rfl; apply s_alloc; exact zb_25; exact qN; intro bk4); (apply ol_nil))
      | (refine cw_region_id 1 ?_; (apply ol_mv; rfl; rfl); (apply ol_val; rfl; first | (apply s_callM (xs := [rdB rb a n c 0]); rfl; exact gf_48; (focus ((repeat (first | exact Pk.nil | (apply Pk.cons; (repeat (first | exact Spl.here | apply Spl.there))))); done)); (intro w' M2 hw' hrd; exact k1 w' (hw'.le) hrd.ok (fun x hx b hb => View.none_of (hrd.le) (hrd.sep x hx b hb)) hrd.nd); (intro v F9 ys M9 h hl9 hL9 hF9; obtain ⟨rfl, rfl⟩ := h)) | (apply s_callM (xs := [rdB rb (slicedA a 1 c 1) (n - 1) (c - 1) 0]); rfl; exact gf_48; (focus ((repeat (first | exact Pk.nil | (apply Pk.cons; (repeat (first | exact Spl.here | apply Spl.there))))); done)); (intro w' M2 hw' hrd; exact number_no (k := 4) (hl9.trans (hw'.le)) hrd.ok (fun x hx b hb => View.none_of (hl9.trans (hrd.le)) (hrd.sep x hx b hb)) hrd.nd (.inr (by omega))); (intro v F9 ys M9 h hl9 hL9 hF9; obtain ⟨rfl, rfl⟩ := h))); (apply ol_val; rfl; apply stp_pur; first | (apply s_conv; rfl; rfl; exact ti_3; (focus (apply wrap_i64; omega))) | (apply s_conv; rfl; rfl; exact ti_3; exact wrap_i64 (by omega)) | (apply s_conv; rfl; rfl; exact ti_3; rfl)); (apply ol_as; rfl; rfl); (apply ol_nil))
      | (refine cw_region_id 2 ?_; (apply ol_mv; rfl; rfl); (apply ol_val; rfl; apply stp_cmp; apply s_lss; rfl; rfl; all_goals (intro hc12; try (exfalso; (first | exact hc12 rfl | omega)))); all_goals (apply ol_mv; rfl; rfl); all_goals (first | (apply ol_gskip; rfl; rfl; exact qA; rfl) | (apply ol_gval; rfl; rfl; rfl; exact qA; apply stp_pur; apply s_move; rfl)); all_goals (first | (apply ol_gskip; rfl; rfl; exact qA; rfl) | (apply ol_gval; rfl; rfl; rfl; exact qA; apply stp_cmp; apply s_gtr; rfl; rfl; all_goals (intro hc15; try (exfalso; (first | exact hc15 rfl | omega))))); all_goals (apply ol_val; rfl; apply stp_pur; first | (apply s_pick_t; rfl; exact qA; rfl) | (apply s_pick_f; rfl; exact qA; rfl)); all_goals (apply ol_mv; rfl; rfl); all_goals (first | (apply ol_gskip; rfl; rfl; exact qA; rfl) | (apply ol_gval; rfl; rfl; rfl; exact qA; apply stp_pur; apply s_move; rfl)); all_goals (first | (apply ol_gskip; rfl; rfl; exact qA; rfl) | (apply ol_gval; rfl; rfl; rfl; exact qA; apply stp_cmp; apply s_eql; rfl; rfl; all_goals (intro hc19; try (exfalso; (first | exact hc19 rfl | omega))))); all_goals (first | (apply ol_gskip; rfl; rfl; exact qA; rfl) | (apply ol_gval; rfl; rfl; rfl; exact qA; apply stp_pur; apply s_move; rfl)); all_goals (first | (apply ol_gskip; rfl; rfl; exact qA; rfl) | (apply ol_gskipu; rfl; rfl; rfl) | (apply ol_gval; rfl; rfl; rfl; exact qA; apply stp_pur; apply s_move; rfl)); all_goals (first | (apply ol_gskip; rfl; rfl; exact qA; rfl) | (apply ol_gskipu; rfl; rfl; rfl) | (apply ol_gval; rfl; rfl; rfl; exact qA; apply stp_cmp; apply s_eql; rfl; rfl; all_goals (intro hc22; try (exfalso; (first | exact hc22 rfl | omega))))); all_goals (first | (apply ol_gskip; rfl; rfl; exact qA; rfl) | (apply ol_gval; rfl; rfl; rfl; exact qA; apply stp_pur; first | (apply s_pick_t; rfl; exact qA; rfl) | (apply s_pick_f; rfl; exact qA; rfl))); all_goals (apply ol_val; rfl; apply stp_pur; first | (apply s_pick_t; rfl; exact qA; rfl) | (apply s_pick_f; rfl; exact qA; rfl)); all_goals (apply ol_nil))
      | (refine cw_region_id 5 ?_; (apply ol_mv; rfl; rfl); (apply ol_val; rfl; apply stp_pur; apply s_buildS; rfl; exact fs_25; exact zb_25; exact qR); (apply ol_val; rfl; apply s_alloc; exact zb_25; exact qN; intro bk6); (apply ol_eff; apply s_storeN; rfl; rfl; exact sz_25; rfl; rfl; exact qN; exact qN); (apply ol_nil))
      | (refine cw_region_id 6 ?_; (apply ol_mv; rfl; rfl); (apply ol_nil))
      | (refine cw_region_id 7 ?_; (apply ol_val; rfl; apply stp_cmp; apply s_eql; rfl; rfl; all_goals (intro hc32; try (exfalso; (first | exact hc32 rfl | omega)))); all_goals (apply ol_as; rfl; rfl); all_goals (apply ol_nil))
      | (refine cw_region_id 9 ?_; (apply ol_val; rfl; apply stp_cmp; apply s_eql; rfl; rfl; all_goals (intro hc38; try (exfalso; (first | exact hc38 rfl | omega)))); all_goals (apply ol_as; rfl; rfl); all_goals (apply ol_nil))
      | (refine cw_region_id 10 ?_; (apply ol_mv; rfl; rfl); (apply ol_mv; rfl; rfl); (apply ol_val; rfl; first | (apply s_callM (xs := [rdB rb a n c 0]); rfl; exact gf_48; (focus ((repeat (first | exact Pk.nil | (apply Pk.cons; (repeat (first | exact Spl.here | apply Spl.there))))); done)); (intro w' M2 hw' hrd; exact k1 w' (hw'.le) hrd.ok (fun x hx b hb => View.none_of (hrd.le) (hrd.sep x hx b hb)) hrd.nd); (intro v F41 ys M41 h hl41 hL41 hF41; obtain ⟨rfl, rfl⟩ := h)) | (apply s_callM (xs := [rdB rb (slicedA a 1 c 1) (n - 1) (c - 1) 0]); rfl; exact gf_48; (focus ((repeat (first | exact Pk.nil | (apply Pk.cons; (repeat (first | exact Spl.here | apply Spl.there))))); done)); (intro w' M2 hw' hrd; exact number_no (k := 4) (hl9.trans (hw'.le)) hrd.ok (fun x hx b hb => View.none_of (hl9.trans (hrd.le)) (hrd.sep x hx b hb)) hrd.nd (.inr (by omega))); (intro v F41 ys M41 h hl41 hL41 hF41; obtain ⟨rfl, rfl⟩ := h))); (apply ol_val; rfl; apply stp_pur; first | (apply s_conv; rfl; rfl; exact ti_3; (focus (apply wrap_i64; omega))) | (apply s_conv; rfl; rfl; exact ti_3; exact wrap_i64 (by omega)) | (apply s_conv; rfl; rfl; exact ti_3; rfl)); (apply ol_val; rfl; apply s_callM (xs := [rdB rb (slicedA a 1 c 1) (n - 1) (c - 1) (fe 0 4)]); rfl; exact gf_49; (focus ((repeat (first | exact Pk.nil | (apply Pk.cons; (repeat (first | exact Spl.here | apply Spl.there))))); done)); (intro w' M2 hw' hrd; exact take_no (k := 0) (hl9.trans (hl41.trans (hw'.le))) hrd.ok (fun x hx b hb => View.none_of (hl9.trans (hl41.trans (hrd.le))) (hrd.sep x hx b hb)) hrd.nd (.inl (by decide))); (intro v F43 ys M43 h hl43 hL43 hF43; obtain ⟨rfl, rfl⟩ := h)); (apply ol_val; rfl; apply s_call; rfl; exact gf_23; (intro w' hw'; exact kc w' (xs := []) (n := 0) (b := 0) (o := 0) (by first | exact hw'.le | exact View.le.trans (by assumption) hw'.le | exact View.le.trans (by assumption) (View.le.trans (by assumption) hw'.le) | exact View.le.trans (by assumption) (View.le.trans (by assumption) (View.le.trans (by assumption) hw'.le))) (Nat.zero_le _) rfl SlA.none'); ((intro v new h; obtain ⟨rc, Ac, cc, spc, rfl, rfl, soc⟩ := h))); (apply ol_fa; rfl; rfl; exact fd_25_2; exact qZ); (apply ol_eff; apply s_store1; rfl; rfl; exact sz_22; rfl; exact qN; exact qT); (apply ol_nil))
      | (refine cw_region_id 20 ?_; (apply ol_ldN; rfl; rfl; rfl; exact sz_25; exact qQ); (apply ol_eff; apply s_storeN; rfl; rfl; exact sz_25; rfl; rfl; exact qN; exact qN); (apply ol_nil))
      | (apply cw_cond_true; rfl; exact qA)
      | (apply cw_cond_false; rfl; exact qA)
      | apply cw_skip
      | apply cw_ret
      | apply cw_block
      | apply cw_exit
    refine endsW [rdB rb (slicedA a 1 c 1) (n - 1) (c - 1) (fe (fe 0 4) 4)] [] View.nil (RVal.cellN rfl rfl rfl (RdN.own (by (repeat (first | exact Has.here | apply Has.there))) (by focus ((repeat (first | rfl | constructor)); done))) RVal.nil) (by exact qK) (View.nil_le _) (View.freshM_nil _ _) (fun F _ _ => ?_)
    exact ItmR.err (e := 4) hre (by decide)
  · have k4 := fun (w' : World) (h : View.le M (View.of w')) hx1 hx2 hx3 => number_ok (rb := rb) h hx1 hx2 hx3 hv1 (k := 4) (by omega) (by omega)
    have hv5 := hv1.drop (k := 4) (by omega)
    have ht4 : (r.take 4).length = 4 := by rw [List.length_take]; omega
    have hb4 : ∀ x ∈ r.take 4, 0 ≤ x ∧ x ≤ 255 := fun x hx => hv1.hb x (List.mem_of_mem_take hx)
    have hlt := numB_lt hb4
    have hbi := bI_numB hb4
    rw [ht4] at hlt hbi
    have h44 : (256 : Nat) ^ 4 = 4294967296 := by decide
    rw [h44] at hlt
    have hdl : (r.drop 4).length = n - 1 - 4 := by rw [List.length_drop]; omega
    have hrd : r = r.take 4 ++ r.drop 4 := (List.take_append_drop 4 r).symm
    generalize hN : numB (r.take 4) = N at *
    by_cases hN2 : n - 1 - 4 < N
    · have hre : rdE d (2 :: r) = (4, []) := by unfold rdE; rw [if_neg (by omega), if_neg (by omega), if_neg (by omega), if_pos rfl, hN, if_pos (by omega)]
      repeat' first
        | apply cw_seq
        | (refine cw_region_id 0 ?_; (apply ol_val; rfl; apply s_alloc; exact zb_25; exact qN; intro bk4); (apply ol_nil))
        | (refine cw_region_id 1 ?_; (apply ol_mv; rfl; rfl); (apply ol_val; rfl; first | (apply s_callM (xs := [rdB rb a n c 0]); rfl; exact gf_48; (focus ((repeat (first | exact Pk.nil | (apply Pk.cons; (repeat (first | exact Spl.here | apply Spl.there))))); done)); (intro w' M2 hw' hrd; exact k1 w' (hw'.le) hrd.ok (fun x hx b hb => View.none_of (hrd.le) (hrd.sep x hx b hb)) hrd.nd); (intro v F9 ys M9 h hl9 hL9 hF9; obtain ⟨rfl, rfl⟩ := h)) | (apply s_callM (xs := [rdB rb (slicedA a 1 c 1) (n - 1) (c - 1) 0]); rfl; exact gf_48; (focus ((repeat (first | exact Pk.nil | (apply Pk.cons; (repeat (first | exact Spl.here | apply Spl.there))))); done)); (intro w' M2 hw' hrd; exact k4 w' (hl9.trans (hw'.le)) hrd.ok (fun x hx b hb => View.none_of (hl9.trans (hrd.le)) (hrd.sep x hx b hb)) hrd.nd); (intro v F9 ys M9 h hl9 hL9 hF9; obtain ⟨rfl, rfl⟩ := h))); (apply ol_val; rfl; apply stp_pur; first | (apply s_conv; rfl; rfl; exact ti_3; (focus (apply wrap_i64; omega))) | (apply s_conv; rfl; rfl; exact ti_3; exact wrap_i64 (by omega)) | (apply s_conv; rfl; rfl; exact ti_3; rfl)); (apply ol_as; rfl; rfl); (apply ol_nil))
        | (refine cw_region_id 2 ?_; (apply ol_mv; rfl; rfl); (apply ol_val; rfl; apply stp_cmp; apply s_lss; rfl; rfl; all_goals (intro hc12; try (exfalso; (first | exact hc12 rfl | omega)))); all_goals (apply ol_mv; rfl; rfl); all_goals (first | (apply ol_gskip; rfl; rfl; exact qA; rfl) | (apply ol_gval; rfl; rfl; rfl; exact qA; apply stp_pur; apply s_move; rfl)); all_goals (first | (apply ol_gskip; rfl; rfl; exact qA; rfl) | (apply ol_gval; rfl; rfl; rfl; exact qA; apply stp_cmp; apply s_gtr; rfl; rfl; all_goals (intro hc15; try (exfalso; (first | exact hc15 rfl | omega))))); all_goals (apply ol_val; rfl; apply stp_pur; first | (apply s_pick_t; rfl; exact qA; rfl) | (apply s_pick_f; rfl; exact qA; rfl)); all_goals (apply ol_mv; rfl; rfl); all_goals (first | (apply ol_gskip; rfl; rfl; exact qA; rfl) | (apply ol_gval; rfl; rfl; rfl; exact qA; apply stp_pur; apply s_move; rfl)); all_goals (first | (apply ol_gskip; rfl; rfl; exact qA; rfl) | (apply ol_gval; rfl; rfl; rfl; exact qA; apply stp_cmp; apply s_eql; rfl; rfl; all_goals (intro hc19; try (exfalso; (first | exact hc19 rfl | omega))))); all_goals (first | (apply ol_gskip; rfl; rfl; exact qA; rfl) | (apply ol_gval; rfl; rfl; rfl; exact qA; apply stp_pur; apply s_move; rfl)); all_goals (first | (apply ol_gskip; rfl; rfl; exact qA; rfl) | (apply ol_gskipu; rfl; rfl; rfl) | (apply ol_gval; rfl; rfl; rfl; exact qA; apply stp_pur; apply s_move; rfl)); all_goals (first | (apply ol_gskip; rfl; rfl; exact qA; rfl) | (apply ol_gskipu; rfl; rfl; rfl) | (apply ol_gval; rfl; rfl; rfl; exact qA; apply stp_cmp; apply s_eql; rfl; rfl; all_goals (intro hc22; try (exfalso; (first | exact hc22 rfl | omega))))); all_goals (first | (apply ol_gskip; rfl; rfl; exact qA; rfl) | (apply ol_gval; rfl; rfl; rfl; exact qA; apply stp_pur; first | (apply s_pick_t; rfl; exact qA; rfl) | (apply s_pick_f; rfl; exact qA; rfl))); all_goals (apply ol_val; rfl; apply stp_pur; first | (apply s_pick_t; rfl; exact qA; rfl) | (apply s_pick_f; rfl; exact qA; rfl)); all_goals (apply ol_nil))
        | (refine cw_region_id 5 ?_; (apply ol_mv; rfl; rfl); (apply ol_val; rfl; apply stp_pur; apply s_buildS; rfl; exact fs_25; exact zb_25; exact qR); (apply ol_val; rfl; apply s_alloc; exact zb_25; exact qN; intro bk6); (apply ol_eff; apply s_storeN; rfl; rfl; exact sz_25; rfl; rfl; exact qN; exact qN); (apply ol_nil))
        | (refine cw_region_id 6 ?_; (apply ol_mv; rfl; rfl); (apply ol_nil))
        | (refine cw_region_id 7 ?_; (apply ol_val; rfl; apply stp_cmp; apply s_eql; rfl; rfl; all_goals (intro hc32; try (exfalso; (first | exact hc32 rfl | omega)))); all_goals (apply ol_as; rfl; rfl); all_goals (apply ol_nil))
        | (refine cw_region_id 9 ?_; (apply ol_val; rfl; apply stp_cmp; apply s_eql; rfl; rfl; all_goals (intro hc38; try (exfalso; (first | exact hc38 rfl | omega)))); all_goals (apply ol_as; rfl; rfl); all_goals (apply ol_nil))
        | (refine cw_region_id 10 ?_; (apply ol_mv; rfl; rfl); (apply ol_mv; rfl; rfl); (apply ol_val; rfl; first | (apply s_callM (xs := [rdB rb a n c 0]); rfl; exact gf_48; (focus ((repeat (first | exact Pk.nil | (apply Pk.cons; (repeat (first | exact Spl.here | apply Spl.there))))); done)); (intro w' M2 hw' hrd; exact k1 w' (hw'.le) hrd.ok (fun x hx b hb => View.none_of (hrd.le) (hrd.sep x hx b hb)) hrd.nd); (intro v F41 ys M41 h hl41 hL41 hF41; obtain ⟨rfl, rfl⟩ := h)) | (apply s_callM (xs := [rdB rb (slicedA a 1 c 1) (n - 1) (c - 1) 0]); rfl; exact gf_48; (focus ((repeat (first | exact Pk.nil | (apply Pk.cons; (repeat (first | exact Spl.here | apply Spl.there))))); done)); (intro w' M2 hw' hrd; exact k4 w' (hl9.trans (hw'.le)) hrd.ok (fun x hx b hb => View.none_of (hl9.trans (hrd.le)) (hrd.sep x hx b hb)) hrd.nd); (intro v F41 ys M41 h hl41 hL41 hF41; obtain ⟨rfl, rfl⟩ := h))); (apply ol_val; rfl; apply stp_pur; first | (apply s_conv; rfl; rfl; exact ti_3; (focus (apply wrap_i64; omega))) | (apply s_conv; rfl; rfl; exact ti_3; exact wrap_i64 (by omega)) | (apply s_conv; rfl; rfl; exact ti_3; rfl)); (apply ol_val; rfl; apply s_callM (xs := [rdB rb (slicedA (slicedA a 1 c 1) 4 (c - 1) 1) (n - 1 - 4) (c - 1 - 4) 0]); rfl; exact gf_49; (focus ((repeat (first | exact Pk.nil | (apply Pk.cons; (repeat (first | exact Spl.here | apply Spl.there))))); done)); (intro w' M2 hw' hrd; exact take_no (k := N) (hl9.trans (hl41.trans (hw'.le))) hrd.ok (fun x hx b hb => View.none_of (hl9.trans (hl41.trans (hrd.le))) (hrd.sep x hx b hb)) hrd.nd (.inr (by omega))); (intro v F43 ys M43 h hl43 hL43 hF43; obtain ⟨rfl, rfl⟩ := h)); (apply ol_val; rfl; apply s_call; rfl; exact gf_23; (intro w' hw'; exact kc w' (xs := []) (n := 0) (b := 0) (o := 0) (by first | exact hw'.le | exact View.le.trans (by assumption) hw'.le | exact View.le.trans (by assumption) (View.le.trans (by assumption) hw'.le) | exact View.le.trans (by assumption) (View.le.trans (by assumption) (View.le.trans (by assumption) hw'.le))) (Nat.zero_le _) rfl SlA.none'); ((intro v new h; obtain ⟨rc, Ac, cc, spc, rfl, rfl, soc⟩ := h))); (apply ol_fa; rfl; rfl; exact fd_25_2; exact qZ); (apply ol_eff; apply s_store1; rfl; rfl; exact sz_22; rfl; exact qN; exact qT); (apply ol_nil))
        | (refine cw_region_id 20 ?_; (apply ol_ldN; rfl; rfl; rfl; exact sz_25; exact qQ); (apply ol_eff; apply s_storeN; rfl; rfl; exact sz_25; rfl; rfl; exact qN; exact qN); (apply ol_nil))
        | (apply cw_cond_true; rfl; exact qA)
        | (apply cw_cond_false; rfl; exact qA)
        | apply cw_skip
        | apply cw_ret
        | apply cw_block
        | apply cw_exit
      refine endsW [rdB rb (slicedA (slicedA a 1 c 1) 4 (c - 1) 1) (n - 1 - 4) (c - 1 - 4) (fe 0 4)] [] View.nil (RVal.cellN rfl rfl rfl (RdN.own (by (repeat (first | exact Has.here | apply Has.there))) (by focus ((repeat (first | rfl | constructor)); done))) RVal.nil) (by exact qK) (View.nil_le _) (View.freshM_nil _ _) (fun F _ _ => ?_)
      exact ItmR.err (e := 4) hre (by decide)
    · have hre : rdE d (2 :: r) = (0, (r.drop 4).drop N) := by unfold rdE; rw [if_neg (by omega), if_neg (by omega), if_neg (by omega), if_pos rfl, hN, if_neg (by omega)]
      have hvt := hv5.take (k := N) (by omega)
      have hvd := hv5.drop (k := N) (by omega)
      obtain ⟨⟨tb, to, ts⟩, htl, htc, htb⟩ := hvt
      have hsplit : r.drop 4 = (r.drop 4).take N ++ (r.drop 4).drop N := (List.take_append_drop N _).symm
      generalize hxs : (r.drop 4).take N = xs at *
      generalize (r.drop 4).drop N = rest at *
      repeat' first
        | apply cw_seq
        | (refine cw_region_id 0 ?_; (apply ol_val; rfl; apply s_alloc; exact zb_25; exact qN; intro bk4); (apply ol_nil))
        | (refine cw_region_id 1 ?_; (apply ol_mv; rfl; rfl); (apply ol_val; rfl; first | (apply s_callM (xs := [rdB rb a n c 0]); rfl; exact gf_48; (focus ((repeat (first | exact Pk.nil | (apply Pk.cons; (repeat (first | exact Spl.here | apply Spl.there))))); done)); (intro w' M2 hw' hrd; exact k1 w' (hw'.le) hrd.ok (fun x hx b hb => View.none_of (hrd.le) (hrd.sep x hx b hb)) hrd.nd); (intro v F9 ys M9 h hl9 hL9 hF9; obtain ⟨rfl, rfl⟩ := h)) | (apply s_callM (xs := [rdB rb (slicedA a 1 c 1) (n - 1) (c - 1) 0]); rfl; exact gf_48; (focus ((repeat (first | exact Pk.nil | (apply Pk.cons; (repeat (first | exact Spl.here | apply Spl.there))))); done)); (intro w' M2 hw' hrd; exact k4 w' (hl9.trans (hw'.le)) hrd.ok (fun x hx b hb => View.none_of (hl9.trans (hrd.le)) (hrd.sep x hx b hb)) hrd.nd); (intro v F9 ys M9 h hl9 hL9 hF9; obtain ⟨rfl, rfl⟩ := h))); (apply ol_val; rfl; apply stp_pur; first | (apply s_conv; rfl; rfl; exact ti_3; (focus (apply wrap_i64; omega))) | (apply s_conv; rfl; rfl; exact ti_3; exact wrap_i64 (by omega)) | (apply s_conv; rfl; rfl; exact ti_3; rfl)); (apply ol_as; rfl; rfl); (apply ol_nil))
        | (refine cw_region_id 2 ?_; (apply ol_mv; rfl; rfl); (apply ol_val; rfl; apply stp_cmp; apply s_lss; rfl; rfl; all_goals (intro hc12; try (exfalso; (first | exact hc12 rfl | omega)))); all_goals (apply ol_mv; rfl; rfl); all_goals (first | (apply ol_gskip; rfl; rfl; exact qA; rfl) | (apply ol_gval; rfl; rfl; rfl; exact qA; apply stp_pur; apply s_move; rfl)); all_goals (first | (apply ol_gskip; rfl; rfl; exact qA; rfl) | (apply ol_gval; rfl; rfl; rfl; exact qA; apply stp_cmp; apply s_gtr; rfl; rfl; all_goals (intro hc15; try (exfalso; (first | exact hc15 rfl | omega))))); all_goals (apply ol_val; rfl; apply stp_pur; first | (apply s_pick_t; rfl; exact qA; rfl) | (apply s_pick_f; rfl; exact qA; rfl)); all_goals (apply ol_mv; rfl; rfl); all_goals (first | (apply ol_gskip; rfl; rfl; exact qA; rfl) | (apply ol_gval; rfl; rfl; rfl; exact qA; apply stp_pur; apply s_move; rfl)); all_goals (first | (apply ol_gskip; rfl; rfl; exact qA; rfl) | (apply ol_gval; rfl; rfl; rfl; exact qA; apply stp_cmp; apply s_eql; rfl; rfl; all_goals (intro hc19; try (exfalso; (first | exact hc19 rfl | omega))))); all_goals (first | (apply ol_gskip; rfl; rfl; exact qA; rfl) | (apply ol_gval; rfl; rfl; rfl; exact qA; apply stp_pur; apply s_move; rfl)); all_goals (first | (apply ol_gskip; rfl; rfl; exact qA; rfl) | (apply ol_gskipu; rfl; rfl; rfl) | (apply ol_gval; rfl; rfl; rfl; exact qA; apply stp_pur; apply s_move; rfl)); all_goals (first | (apply ol_gskip; rfl; rfl; exact qA; rfl) | (apply ol_gskipu; rfl; rfl; rfl) | (apply ol_gval; rfl; rfl; rfl; exact qA; apply stp_cmp; apply s_eql; rfl; rfl; all_goals (intro hc22; try (exfalso; (first | exact hc22 rfl | omega))))); all_goals (first | (apply ol_gskip; rfl; rfl; exact qA; rfl) | (apply ol_gval; rfl; rfl; rfl; exact qA; apply stp_pur; first | (apply s_pick_t; rfl; exact qA; rfl) | (apply s_pick_f; rfl; exact qA; rfl))); all_goals (apply ol_val; rfl; apply stp_pur; first | (apply s_pick_t; rfl; exact qA; rfl) | (apply s_pick_f; rfl; exact qA; rfl)); all_goals (apply ol_nil))
        | (refine cw_region_id 5 ?_; (apply ol_mv; rfl; rfl); (apply ol_val; rfl; apply stp_pur; apply s_buildS; rfl; exact fs_25; exact zb_25; exact qR); (apply ol_val; rfl; apply s_alloc; exact zb_25; exact qN; intro bk6); (apply ol_eff; apply s_storeN; rfl; rfl; exact sz_25; rfl; rfl; exact qN; exact qN); (apply ol_nil))
        | (refine cw_region_id 6 ?_; (apply ol_mv; rfl; rfl); (apply ol_nil))
        | (refine cw_region_id 7 ?_; (apply ol_val; rfl; apply stp_cmp; apply s_eql; rfl; rfl; all_goals (intro hc32; try (exfalso; (first | exact hc32 rfl | omega)))); all_goals (apply ol_as; rfl; rfl); all_goals (apply ol_nil))
        | (refine cw_region_id 9 ?_; (apply ol_val; rfl; apply stp_cmp; apply s_eql; rfl; rfl; all_goals (intro hc38; try (exfalso; (first | exact hc38 rfl | omega)))); all_goals (apply ol_as; rfl; rfl); all_goals (apply ol_nil))
        | (refine cw_region_id 10 ?_; (apply ol_mv; rfl; rfl); (apply ol_mv; rfl; rfl); (apply ol_val; rfl; first | (apply s_callM (xs := [rdB rb a n c 0]); rfl; exact gf_48; (focus ((repeat (first | exact Pk.nil | (apply Pk.cons; (repeat (first | exact Spl.here | apply Spl.there))))); done)); (intro w' M2 hw' hrd; exact k1 w' (hw'.le) hrd.ok (fun x hx b hb => View.none_of (hrd.le) (hrd.sep x hx b hb)) hrd.nd); (intro v F41 ys M41 h hl41 hL41 hF41; obtain ⟨rfl, rfl⟩ := h)) | (apply s_callM (xs := [rdB rb (slicedA a 1 c 1) (n - 1) (c - 1) 0]); rfl; exact gf_48; (focus ((repeat (first | exact Pk.nil | (apply Pk.cons; (repeat (first | exact Spl.here | apply Spl.there))))); done)); (intro w' M2 hw' hrd; exact k4 w' (hl9.trans (hw'.le)) hrd.ok (fun x hx b hb => View.none_of (hl9.trans (hrd.le)) (hrd.sep x hx b hb)) hrd.nd); (intro v F41 ys M41 h hl41 hL41 hF41; obtain ⟨rfl, rfl⟩ := h))); (apply ol_val; rfl; apply stp_pur; first | (apply s_conv; rfl; rfl; exact ti_3; (focus (apply wrap_i64; omega))) | (apply s_conv; rfl; rfl; exact ti_3; exact wrap_i64 (by omega)) | (apply s_conv; rfl; rfl; exact ti_3; rfl)); (apply ol_val; rfl; apply s_callM (xs := [rdB rb (slicedA (slicedA a 1 c 1) 4 (c - 1) 1) (n - 1 - 4) (c - 1 - 4) 0]); rfl; exact gf_49; (focus ((repeat (first | exact Pk.nil | (apply Pk.cons; (repeat (first | exact Spl.here | apply Spl.there))))); done)); (intro w' M2 hw' hrd; exact take_ok (k := N) (hl9.trans (hl41.trans (hw'.le))) hrd.ok (fun x hx b hb => View.none_of (hl9.trans (hl41.trans (hrd.le))) (hrd.sep x hx b hb)) hrd.nd (by omega) hv5.hc); (intro v F43 ys M43 h hl43 hL43 hF43; obtain ⟨rfl, rfl⟩ := h)); (apply ol_val; rfl; apply s_call; rfl; exact gf_23; (intro w' hw'; exact kc w' (by first | exact hw'.le | exact View.le.trans (by assumption) hw'.le | exact View.le.trans (by assumption) (View.le.trans (by assumption) hw'.le) | exact View.le.trans (by assumption) (View.le.trans (by assumption) (View.le.trans (by assumption) hw'.le))) (by omega) htl ts); ((intro v new h; obtain ⟨rc, Ac, cc, spc, rfl, rfl, soc⟩ := h))); (apply ol_fa; rfl; rfl; exact fd_25_2; exact qZ); (apply ol_eff; apply s_store1; rfl; rfl; exact sz_22; rfl; exact qN; exact qT); (apply ol_nil))
        | (refine cw_region_id 20 ?_; (apply ol_ldN; rfl; rfl; rfl; exact sz_25; exact qQ); (apply ol_eff; apply s_storeN; rfl; rfl; exact sz_25; rfl; rfl; exact qN; exact qN); (apply ol_nil))
        | (apply cw_cond_true; rfl; exact qA)
        | (apply cw_cond_false; rfl; exact qA)
        | apply cw_skip
        | apply cw_ret
        | apply cw_block
        | apply cw_exit
      refine endsW [rdB rb (slicedA (slicedA (slicedA a 1 c 1) 4 (c - 1) 1) N (c - 1 - 4) 1) (n - 1 - 4 - N) (c - 1 - 4 - N) 0] [⟨rc, flat (eK .u8) xs ++ spc, 5⟩] View.nil (RVal.cellN rfl rfl rfl (RdN.own (by (repeat (first | exact Has.here | apply Has.there))) (by focus ((repeat (first | rfl | constructor)); done))) RVal.nil) (by exact qK) (View.nil_le _) (View.freshM_nil _ _) (fun F _ hz => ?_)
      refine ⟨_, _, _, 0, rest, mkL d ⟨2, 0, ⟨xs, base rc Ac, rc.getD 0, 0, cc⟩, none, 0, 0, 0, 0⟩, by rw [mkL_enc]; rfl, rfl, hre, fun _ => ⟨fun _ hM' _ => hvd.mono hM', fun _ hF' => ItV.mkL ⟨(SlA.inV (eK_length .u8) (hz _ (List.Mem.head _)) (fun h => SO.emp soc h)).mono hF', htb, by dsimp only; omega, Nat.zero_le _⟩ rfl d, ?_, ?_⟩⟩
      · exact ⟨by rw [okI_mkL (by show (2 : Int) ≠ 3; omega)]; rfl, rgI_mkL (by dsimp only; omega) d⟩
      · rw [encI_mkL (by show (2 : Int) ≠ 3; omega)]
        show 2 :: r = 2 :: (bI 4 xs.length ++ xs) ++ rest
        rw [List.cons_append, List.append_assoc, ← hsplit, htl, Nat.sub_zero, hbi, List.take_append_drop]
end Go.Proofs.YtkkfgeekdaalmaaDoor
