/-
  Texts joined: Ty N0 D1 X1 X2 X3 X5 X6 X7 X8 E1 A1 A2.
-/
import Derived.Test.YtagmoecojmlogaaVq
import Derived.Test.YtagmoecojmlogaaProg
import Derived.KernelRfl
namespace Go.Proofs.Ytagmoecojmlogaa
open Go Go.Fw
theorem mixed : Try.prog.follows .mixedOrders = true := by kernel_rfl
theorem fd_25_0 : fieldB Try.prog 25 0 = some 0 := by kernel_rfl
theorem fd_25_1 : fieldB Try.prog 25 1 = some 1 := by kernel_rfl
theorem fd_25_2 : fieldB Try.prog 25 2 = some 2 := by kernel_rfl
theorem fd_25_3 : fieldB Try.prog 25 3 = some 3 := by kernel_rfl
theorem fd_25_4 : fieldB Try.prog 25 4 = some 4 := by kernel_rfl
theorem fd_25_5 : fieldB Try.prog 25 5 = some 5 := by kernel_rfl
theorem fd_28_0 : fieldB Try.prog 28 0 = some 0 := by kernel_rfl
theorem fd_28_1 : fieldB Try.prog 28 1 = some 1 := by kernel_rfl
theorem fd_28_2 : fieldB Try.prog 28 2 = some 2 := by kernel_rfl
theorem fd_28_3 : fieldB Try.prog 28 3 = some 3 := by kernel_rfl
theorem fd_28_4 : fieldB Try.prog 28 4 = some 4 := by kernel_rfl
theorem fd_56_0 : fieldB Try.prog 56 0 = some 0 := by kernel_rfl
theorem fd_56_1 : fieldB Try.prog 56 1 = some 1 := by kernel_rfl
theorem fd_61_0 : fieldB Try.prog 61 0 = some 0 := by kernel_rfl
theorem fd_61_1 : fieldB Try.prog 61 1 = some 1 := by kernel_rfl
theorem fd_61_2 : fieldB Try.prog 61 2 = some 2 := by kernel_rfl
theorem fd_70_0 : fieldB Try.prog 70 0 = some 0 := by kernel_rfl
theorem fd_70_1 : fieldB Try.prog 70 1 = some 6 := by kernel_rfl
theorem fd_87_0 : fieldB Try.prog 87 0 = some 0 := by kernel_rfl
theorem fd_87_1 : fieldB Try.prog 87 1 = some 1 := by kernel_rfl
theorem fd_101_0 : fieldB Try.prog 101 0 = some 0 := by kernel_rfl
theorem fd_101_1 : fieldB Try.prog 101 1 = some 1 := by kernel_rfl
theorem fd_101_2 : fieldB Try.prog 101 2 = some 2 := by kernel_rfl
theorem fd_101_3 : fieldB Try.prog 101 3 = some 3 := by kernel_rfl
theorem sz_3 : sizeB Try.prog 3 = some 1 := by kernel_rfl
theorem sz_5 : sizeB Try.prog 5 = some 1 := by kernel_rfl
theorem sz_22 : sizeB Try.prog 22 = some 1 := by kernel_rfl
theorem sz_23 : sizeB Try.prog 23 = some 1 := by kernel_rfl
theorem sz_25 : sizeB Try.prog 25 = some 6 := by kernel_rfl
theorem sz_28 : sizeB Try.prog 28 = some 5 := by kernel_rfl
theorem sz_31 : sizeB Try.prog 31 = some 1 := by kernel_rfl
theorem sz_54 : sizeB Try.prog 54 = some 1 := by kernel_rfl
theorem sz_56 : sizeB Try.prog 56 = some 2 := by kernel_rfl
theorem sz_61 : sizeB Try.prog 61 = some 3 := by kernel_rfl
theorem sz_87 : sizeB Try.prog 87 = some 2 := by kernel_rfl
theorem sz_99 : sizeB Try.prog 99 = some 1 := by kernel_rfl
theorem sz_101 : sizeB Try.prog 101 = some 4 := by kernel_rfl
theorem by_3 : bytesB Try.prog 3 = some 8 := by kernel_rfl
theorem by_5 : bytesB Try.prog 5 = some 1 := by kernel_rfl
theorem by_25 : bytesB Try.prog 25 = some 80 := by kernel_rfl
theorem by_28 : bytesB Try.prog 28 = some 56 := by kernel_rfl
theorem by_61 : bytesB Try.prog 61 = some 24 := by kernel_rfl
theorem by_101 : bytesB Try.prog 101 = some 64 := by kernel_rfl
theorem el_22 : tdSlice Try.prog 22 = some 61 := by kernel_rfl
theorem el_23 : tdSlice Try.prog 23 = some 3 := by kernel_rfl
theorem el_26 : tdSlice Try.prog 26 = some 5 := by kernel_rfl
theorem el_31 : tdSlice Try.prog 31 = some 28 := by kernel_rfl
theorem el_52 : tdSlice Try.prog 52 = some 87 := by kernel_rfl
theorem el_54 : tdSlice Try.prog 54 = some 25 := by kernel_rfl
theorem el_99 : tdSlice Try.prog 99 = some 101 := by kernel_rfl
theorem el_109 : tdSlice Try.prog 109 = some 31 := by kernel_rfl
theorem zb_3 : zeroB Try.prog 3 = some (.int .i64 0) := by kernel_rfl
theorem zb_5 : zeroB Try.prog 5 = some (.int .u8 0) := by kernel_rfl
theorem zb_25 : zeroB Try.prog 25 = some (.agg [.int .i64 0, .int .i64 0, .int .i64 0, .int .i64 0, .slice none 0 0, .slice none 0 0].toArray) := by kernel_rfl
theorem zb_28 : zeroB Try.prog 28 = some (.agg [.int .i64 0, .int .i64 0, .int .i64 0, .int .i64 0, .slice none 0 0].toArray) := by kernel_rfl
theorem zb_31 : zeroB Try.prog 31 = some (.slice none 0 0) := by kernel_rfl
theorem zb_56 : zeroB Try.prog 56 = some (.agg [.slice none 0 0, .slice none 0 0].toArray) := by kernel_rfl
theorem zb_61 : zeroB Try.prog 61 = some (.agg [.int .i64 0, .int .i64 0, .int .i64 0].toArray) := by kernel_rfl
theorem zb_70 : zeroB Try.prog 70 = some (.agg [.int .i64 0, .int .i64 0, .int .i64 0, .int .i64 0, .slice none 0 0, .slice none 0 0, .slice none 0 0].toArray) := by kernel_rfl
theorem zb_87 : zeroB Try.prog 87 = some (.agg [.int .u8 0, .int .u16 0].toArray) := by kernel_rfl
theorem zb_101 : zeroB Try.prog 101 = some (.agg [.int .i64 0, .int .i64 0, .slice none 0 0, .slice none 0 0].toArray) := by kernel_rfl
theorem fs_25 : fieldsB Try.prog 25 = some [(0, 1), (1, 1), (2, 1), (3, 1), (4, 1), (5, 1)] := by kernel_rfl
theorem fs_28 : fieldsB Try.prog 28 = some [(0, 1), (1, 1), (2, 1), (3, 1), (4, 1)] := by kernel_rfl
theorem fs_61 : fieldsB Try.prog 61 = some [(0, 1), (1, 1), (2, 1)] := by kernel_rfl
theorem fs_70 : fieldsB Try.prog 70 = some [(0, 6), (6, 1)] := by kernel_rfl
theorem fs_101 : fieldsB Try.prog 101 = some [(0, 1), (1, 1), (2, 1), (3, 1)] := by kernel_rfl
theorem ti_3 : tdInt Try.prog 3 = some .i64 := by kernel_rfl
theorem ti_5 : tdInt Try.prog 5 = some .u8 := by kernel_rfl
theorem ti_114 : tdInt Try.prog 114 = some .u64 := by kernel_rfl
theorem is_61 : intStruct Try.prog 61 3 = true := by kernel_rfl
theorem ub_4 : Try.prog.underlying 4 = some .bool := by kernel_rfl
theorem us_9 : Try.prog.underlying 9 = some .string := by kernel_rfl
theorem gf_8 : goFunc Try.prog 8 = true := by kernel_rfl
theorem gf_10 : goFunc Try.prog 10 = true := by kernel_rfl
theorem gf_14 : goFunc Try.prog 14 = true := by kernel_rfl
theorem gf_15 : goFunc Try.prog 15 = true := by kernel_rfl
theorem gf_18 : goFunc Try.prog 18 = true := by kernel_rfl
theorem gf_19 : goFunc Try.prog 19 = true := by kernel_rfl
theorem gf_20 : goFunc Try.prog 20 = true := by kernel_rfl
theorem gf_21 : goFunc Try.prog 21 = true := by kernel_rfl
theorem gf_24 : goFunc Try.prog 24 = true := by kernel_rfl
theorem gf_25 : goFunc Try.prog 25 = true := by kernel_rfl
theorem gf_26 : goFunc Try.prog 26 = true := by kernel_rfl
theorem gf_27 : goFunc Try.prog 27 = true := by kernel_rfl
theorem gf_28 : goFunc Try.prog 28 = true := by kernel_rfl
theorem gf_29 : goFunc Try.prog 29 = true := by kernel_rfl
theorem gf_30 : goFunc Try.prog 30 = true := by kernel_rfl
theorem gf_31 : goFunc Try.prog 31 = true := by kernel_rfl
theorem gf_32 : goFunc Try.prog 32 = true := by kernel_rfl
theorem gf_33 : goFunc Try.prog 33 = true := by kernel_rfl
theorem gf_34 : goFunc Try.prog 34 = true := by kernel_rfl
theorem gf_35 : goFunc Try.prog 35 = true := by kernel_rfl
theorem gf_37 : goFunc Try.prog 37 = true := by kernel_rfl
theorem gf_41 : goFunc Try.prog 41 = true := by kernel_rfl
theorem gf_42 : goFunc Try.prog 42 = true := by kernel_rfl
theorem gf_43 : goFunc Try.prog 43 = true := by kernel_rfl
theorem gf_44 : goFunc Try.prog 44 = true := by kernel_rfl
theorem gf_45 : goFunc Try.prog 45 = true := by kernel_rfl
theorem gf_46 : goFunc Try.prog 46 = true := by kernel_rfl
theorem gf_50 : goFunc Try.prog 50 = true := by kernel_rfl
theorem gf_51 : goFunc Try.prog 51 = true := by kernel_rfl
theorem gf_52 : goFunc Try.prog 52 = true := by kernel_rfl
theorem gf_53 : goFunc Try.prog 53 = true := by kernel_rfl
theorem gf_54 : goFunc Try.prog 54 = true := by kernel_rfl
theorem gf_55 : goFunc Try.prog 55 = true := by kernel_rfl
theorem gf_56 : goFunc Try.prog 56 = true := by kernel_rfl
theorem gf_57 : goFunc Try.prog 57 = true := by kernel_rfl
theorem gf_58 : goFunc Try.prog 58 = true := by kernel_rfl
theorem gf_59 : goFunc Try.prog 59 = true := by kernel_rfl
theorem gf_60 : goFunc Try.prog 60 = true := by kernel_rfl
theorem gf_61 : goFunc Try.prog 61 = true := by kernel_rfl
theorem gf_65 : goFunc Try.prog 65 = true := by kernel_rfl
theorem gf_66 : goFunc Try.prog 66 = true := by kernel_rfl
theorem gf_67 : goFunc Try.prog 67 = true := by kernel_rfl
theorem gf_69 : goFunc Try.prog 69 = true := by kernel_rfl
theorem gf_71 : goFunc Try.prog 71 = true := by kernel_rfl
theorem gf_73 : goFunc Try.prog 73 = true := by kernel_rfl
theorem gf_74 : goFunc Try.prog 74 = true := by kernel_rfl
theorem gf_75 : goFunc Try.prog 75 = true := by kernel_rfl
theorem gf_76 : goFunc Try.prog 76 = true := by kernel_rfl
theorem gf_78 : goFunc Try.prog 78 = true := by kernel_rfl
theorem gf_79 : goFunc Try.prog 79 = true := by kernel_rfl
theorem gf_80 : goFunc Try.prog 80 = true := by kernel_rfl
theorem gf_81 : goFunc Try.prog 81 = true := by kernel_rfl
theorem gf_83 : goFunc Try.prog 83 = true := by kernel_rfl
theorem gf_85 : goFunc Try.prog 85 = true := by kernel_rfl
end Go.Proofs.Ytagmoecojmlogaa
namespace Go.Proofs.Ytagmoecojmlogaa
set_option maxRecDepth 20000
set_option linter.unusedSimpArgs false
set_option linter.unusedVariables false
/-- The first k digits of n, the lowest one first. -/
def lw (b k n : Nat) : List Nat := (List.range k).map fun i => n / b ^ i % b
theorem lw_length (b k n : Nat) : (lw b k n).length = k := by simp [lw]
theorem lw_get {b k n i : Nat} (h : i < (lw b k n).length) : (lw b k n)[i] = n / b ^ i % b := by simp [lw]
theorem lw_zero (b n : Nat) : lw b 0 n = [] := rfl
theorem lw_succ (b k n : Nat) : lw b (k + 1) n = lw b k n ++ [n / b ^ k % b] := by simp [lw, List.range_succ]
theorem lw_add (b j k n : Nat) : lw b (j + k) n = lw b j n ++ lw b k (n / b ^ j) := by
  induction k with
  | zero => simp [lw_zero]
  | succ k ih =>
    rw [← Nat.add_assoc, lw_succ, lw_succ, ih, List.append_assoc, Nat.div_div_eq_div_mul, Nat.pow_add]
theorem lw_cons (b k n : Nat) : lw b (k + 1) n = n % b :: lw b k (n / b) := by
  rw [Nat.add_comm, lw_add, Nat.pow_one]
  simp [lw, List.range_succ]
theorem lw_lt {b : Nat} (hb : 0 < b) (k n : Nat) : ∀ x ∈ lw b k n, x < b := by
  intro x hx
  obtain ⟨i, _, rfl⟩ := List.mem_map.1 hx
  exact Nat.mod_lt _ hb
/-- The number of some digits, the lowest one first. -/
def vl (b : Nat) : List Nat → Nat
  | [] => 0
  | x :: r => x + b * vl b r
theorem vl_lw (b k n : Nat) : vl b (lw b k n) = n % b ^ k := by
  induction k generalizing n with
  | zero => simp [lw_zero, vl, Nat.mod_one]
  | succ k ih => rw [lw_cons, vl, ih, Nat.pow_succ', Nat.mod_mul]
/-- How many digits a number has: none if it is 0. -/
def nd (b n : Nat) : Nat := if h : n = 0 ∨ b < 2 then 0 else nd b (n / b) + 1
termination_by n
decreasing_by exact Nat.div_lt_self (by omega) (by omega)
/-- All digits, the lowest first. -/
abbrev dg (b n : Nat) : List Nat := lw b (nd b n) n
/-- A digit as a letter. -/
def chr (d : Nat) : Int := if d < 10 then 48 + (d : Int) else 87 + (d : Int)
/-- The text of a number. -/
def txt (b n : Nat) : List Int := if n = 0 then [48] else (dg b n).reverse.map chr
/-- The value of a letter; 16: it is none. -/
def valc (c : Int) : Nat := if 48 ≤ c ∧ c ≤ 57 then (c - 48).toNat else if 97 ≤ c ∧ c ≤ 102 then (c - 87).toNat else 16
/-- The number of a text of digits. -/
def num (b : Nat) (l : List Int) : Nat := vl b (l.map valc).reverse
/-- What a text must be to be read. -/
def isT (b : Nat) (l : List Int) : Prop := l ≠ [] ∧ (l.head? = some 48 → l.length ≤ 1) ∧ ∀ c ∈ l, valc c < b
end Go.Proofs.Ytagmoecojmlogaa
namespace Go.Proofs.Ytagmoecojmlogaa
set_option maxRecDepth 20000
set_option linter.unusedSimpArgs false
set_option linter.unusedVariables false
open Go Go.Fw
/-- The bytes of a number, the highest first. -/
def bI (k N : Nat) : List Int := (lw 256 k N).reverse.map fun n : Nat => (n : Int)
theorem bI_length (k N : Nat) : (bI k N).length = k := by unfold bI; rw [List.length_map, List.length_reverse, lw_length]
theorem bI_b (k N : Nat) : ∀ x ∈ bI k N, 0 ≤ x ∧ x ≤ 255 := by
  intro x hx
  obtain ⟨n, hn, rfl⟩ := List.mem_map.1 hx
  have := lw_lt (by decide : 0 < 256) _ _ n (List.mem_reverse.1 hn)
  omega
theorem pow8 (r : Nat) : (2 : Nat) ^ (8 * r) = 256 ^ r := by rw [Nat.pow_mul]
theorem bI_get {k N i : Nat} (h : i < k) : (bI k N)[i]? = some ((N / 256 ^ (k - 1 - i) % 256 : Nat) : Int) := by
  unfold bI
  rw [List.getElem?_map, List.getElem?_reverse (by rw [lw_length]; exact h), lw_length]
  have h2 : k - 1 - i < (lw 256 k N).length := by rw [lw_length]; omega
  rw [List.getElem?_eq_getElem h2, lw_get]
  rfl
theorem bI_take {k N i : Nat} (h : i < k) : (bI k N).take (i + 1) = (bI k N).take i ++ [((N / 256 ^ (k - 1 - i) % 256 : Nat) : Int)] := by
  have hl : i < (bI k N).length := by rw [bI_length]; exact h
  rw [List.take_succ_eq_append_getElem hl]
  congr 2
  have := bI_get (N := N) h
  rw [List.getElem?_eq_getElem hl] at this
  exact Option.some.inj this
/-- An int as a 64-bit number. -/
def u64 (n : Int) : Nat := (IntKind.u64.wrap n).toNat
theorem u64_cast (n : Int) : ((u64 n : Nat) : Int) = IntKind.u64.wrap n := by
  unfold u64
  have : 0 ≤ IntKind.u64.wrap n := by rw [wrapU64]; omega
  omega
theorem u64_nat {n : Nat} (h : n < 18446744073709551616) : u64 (n : Int) = n := by
  unfold u64
  rw [wrap_u64 (by omega)]
  omega
/-- What stands at the head of an item. -/
structure Hd where
  k : Int
  n : Int
  B : Sl Int
  La : Option Addr
  Lb : Nat
  Lo : Nat
  Lc : Nat
  m : Nat
/-- An item, so deep as it is read. -/
def It : Nat → Type
  | 0 => Hd
  | d + 1 => Hd × List (It d)
def It.hd : {d : Nat} → It d → Hd
  | 0, h => h
  | _ + 1, p => p.1
def It.enc {d : Nat} (x : It d) : List Value := [.int .i64 x.hd.k, .int .i64 x.hd.n, .slice x.hd.B.a x.hd.B.xs.length x.hd.B.c, .slice x.hd.La x.hd.m x.hd.Lc]
theorem It.enc_length {d : Nat} (x : It d) : x.enc.length = 4 := rfl
theorem It.ones {d : Nat} (x : It d) : Fw.ones x.enc = true := rfl
def HdV (M : View) (h : Hd) : Prop := SlA M (eK .u8) 1 h.B.a h.B.xs h.B.b h.B.o ∧ (∀ x ∈ h.B.xs, 0 ≤ x ∧ x ≤ 255) ∧ h.B.xs.length ≤ 1073741824 ∧ h.m ≤ 1073741824
/-- The item is there. -/
def ItV (M : View) : (d : Nat) → It d → Prop
  | 0, h => HdV M h
  | d + 1, p => HdV M p.1 ∧ p.2.length = p.1.m ∧ SlA M It.enc 4 p.1.La p.2 p.1.Lb p.1.Lo ∧ ∀ x ∈ p.2, ItV M d x
theorem ItV.head {M : View} : ∀ {d : Nat} {x : It d}, ItV M d x → HdV M x.hd
  | 0, _, h => h
  | _ + 1, _, h => h.1
/-- Is the head of an integer, or of bytes, a valid one? -/
def okH (h : Hd) : Bool := decide (h.k = 1 ∧ h.B.xs.length = 0 ∧ h.m = 0 ∨ h.k = 2 ∧ h.n = 0 ∧ h.m = 0)
/-- Is the item valid? -/
def okI : (d : Nat) → It d → Bool
  | 0, h => okH h
  | d + 1, p => if p.1.k = 3 then decide (p.1.n = 0 ∧ p.1.B.xs.length = 0 ∧ p.1.m ≤ 1000) && p.2.all (okI d) else okH p.1
def encH (h : Hd) : List Int := if h.k = 1 then 1 :: bI 8 (u64 h.n) else 2 :: (bI 4 h.B.xs.length ++ h.B.xs)
/-- The encoding. -/
def encI : (d : Nat) → It d → List Int
  | 0, h => encH h
  | d + 1, p => if p.1.k = 3 then 3 :: (bI 4 p.1.m ++ p.2.flatMap (encI d)) else encH p.1
end Go.Proofs.Ytagmoecojmlogaa
namespace Go.Proofs.Ytagmoecojmlogaa
set_option maxRecDepth 20000
set_option linter.unusedSimpArgs false
set_option linter.unusedVariables false
open Go Go.Fw
theorem okH_1 {h : Hd} (e : h.k = 1) : okH h = decide (h.B.xs.length = 0 ∧ h.m = 0) := by unfold okH; rw [e]; simp
theorem okH_2 {h : Hd} (e : h.k = 2) : okH h = decide (h.n = 0 ∧ h.m = 0) := by unfold okH; rw [e]; simp
theorem okH_0 {h : Hd} (e1 : h.k ≠ 1) (e2 : h.k ≠ 2) : okH h = false := by unfold okH; simp [e1, e2]
theorem okI_leaf {d : Nat} {x : It d} (h3 : x.hd.k ≠ 3 ∨ d = 0) : okI d x = okH x.hd := by
  cases d with
  | zero => rfl
  | succ d =>
    have h : ¬ x.1.k = 3 := by rcases h3 with h | h; exact h; omega
    unfold okI
    rw [if_neg h]
    rfl
end Go.Proofs.Ytagmoecojmlogaa
namespace Go.Proofs.Ytagmoecojmlogaa
set_option maxRecDepth 20000
set_option linter.unusedSimpArgs false
set_option linter.unusedVariables false
open Go Go.Fw
attribute [local irreducible] CW OL OD FX Stp FnC FnV Ret
set_option maxHeartbeats 800000
theorem anyItIdx_spec {dd : Nat} {M : View} {w : World} (hM : View.le M (View.of w)) {f : Nat} {cap : List Value} {p : (It dd) → Bool} (hg : goFunc Try.prog f = true) {xs : List (It dd)} (hp : ∀ (w' : World) (x : (It dd)), x ∈ xs → View.le M (View.of w') → FnC Try.prog f ([.agg x.enc.toArray] ++ cap) w' (fun v _ => v = .bool (p x)))
    {i : Int} (hi : idxI p xs = i) {n : Nat} (hn : xs.length = n) {a : Option Addr} {b o c : Nat} (s : SlA M It.enc 4 a xs b o) (hl : xs.length ≤ 4611686018427387904) :
    FnC Try.prog 85 [.slice a n c, .func (.func f) #[] cap.toArray] w (fun v _ => v = .int .i64 i) := by
  subst hi hn
  refine enterF (M := M) Try.func85 rfl rfl rfl rfl hM ?_
  repeat' first
    | apply cw_seq
    | (refine cw_region_id 0 ?_; (apply ol_as; rfl; rfl); (apply ol_nil))
    | (refine cw_region_id 1 ?_; (apply ol_mv; rfl; rfl); (apply ol_val; rfl; apply stp_pur; apply s_len; rfl; exact el_99); (apply ol_mv; rfl; rfl); (apply ol_nil))
    | (apply cw_cond_true; rfl; exact qA)
    | (apply cw_cond_false; rfl; exact qA)
    | apply cw_skip
    | apply cw_ret
    | apply cw_block
    | apply cw_exit
  refine cw_loopK (σ := Nat) [0, 1, 7] (by (repeat (first | exact Keep.nil | (apply Keep.cons; rfl)))) (fun k => [(8, .int .i64 k)]) (fun _ => M) (fun _ => []) (fun k => k ≤ xs.length ∧ (xs.take k).any p = false) (fun k => xs.length - k) 0 (by (repeat (first | exact trivial | refine And.intro rfl ?_))) (View.le.refl _) (by exact qK) ⟨by omega, by simp⟩ ?_
  intro k ⟨hk, ht⟩
  by_cases hk' : k < xs.length
  · have hsp : xs = xs.take k ++ xs[k] :: xs.drop (k + 1) := by simp
    cases hpx : p xs[k] with
    | true =>
      repeat' first
        | apply cw_seq
        | (refine cw_region_id 2 ?_; (apply ol_val; rfl; apply stp_cmp; apply s_lss; rfl; rfl; all_goals (intro _; try (exfalso; (first | (rename_i hh; exact hh rfl) | omega)))); all_goals (apply ol_nil))
        | (refine cw_region_id 3 ?_; (apply ol_mv; rfl; rfl); (apply ol_as; rfl; rfl); (apply ol_nil))
        | (refine cw_region_id 4 ?_; (apply ol_mv; rfl; rfl); (apply ol_mv; rfl; rfl); (apply ol_mv; rfl; rfl); (apply ol_val; rfl; apply stp_pur; first | (apply s_indexK; rfl; rfl; exact el_99; exact sz_101; (first | rfl | exact s.at_ (by omega)); omega) | (apply s_indexO; rfl; rfl; exact el_99; exact sz_101; (first | rfl | exact s.at_ (by omega)); omega)); (apply ol_ldN; rfl; rfl; rfl; exact sz_101; (first | exact qQ | (apply RdN.view; exact s.cells _ (by omega)))); (apply ol_val; rfl; (apply s_clov (fs := []); rfl; rfl; exact hg; (intro w' hw'; exact hp w' xs[k] (List.getElem_mem _) hw'.le); rw [hpx])); all_goals (apply ol_nil))
        | (refine cw_region_id 5 ?_; (apply ol_mv; rfl; rfl); (apply ol_as; rfl; rfl); (apply ol_nil))
        | (refine cw_region_id 6 ?_; (apply ol_val; rfl; apply stp_pur; apply s_add64; rfl; rfl; omega); (apply ol_mv; rfl; rfl); (apply ol_nil))
        | (refine cw_region_id 7 ?_; (apply ol_as; rfl; rfl); (apply ol_nil))
        | (apply cw_cond_true; rfl; exact qA)
        | (apply cw_cond_false; rfl; exact qA)
        | apply cw_skip
        | apply cw_ret
        | apply cw_block
        | apply cw_exit
      refine ends [] (RVal.tmp rfl RVal.nil) Pick.nil ?_
      rw [idxI_first hk' ht hpx]
      rfl
    | false =>
      repeat' first
        | apply cw_seq
        | (refine cw_region_id 2 ?_; (apply ol_val; rfl; apply stp_cmp; apply s_lss; rfl; rfl; all_goals (intro _; try (exfalso; (first | (rename_i hh; exact hh rfl) | omega)))); all_goals (apply ol_nil))
        | (refine cw_region_id 3 ?_; (apply ol_mv; rfl; rfl); (apply ol_as; rfl; rfl); (apply ol_nil))
        | (refine cw_region_id 4 ?_; (apply ol_mv; rfl; rfl); (apply ol_mv; rfl; rfl); (apply ol_mv; rfl; rfl); (apply ol_val; rfl; apply stp_pur; first | (apply s_indexK; rfl; rfl; exact el_99; exact sz_101; (first | rfl | exact s.at_ (by omega)); omega) | (apply s_indexO; rfl; rfl; exact el_99; exact sz_101; (first | rfl | exact s.at_ (by omega)); omega)); (apply ol_ldN; rfl; rfl; rfl; exact sz_101; (first | exact qQ | (apply RdN.view; exact s.cells _ (by omega)))); (apply ol_val; rfl; (apply s_clov (fs := []); rfl; rfl; exact hg; (intro w' hw'; exact hp w' xs[k] (List.getElem_mem _) hw'.le); rw [hpx])); all_goals (apply ol_nil))
        | (refine cw_region_id 5 ?_; (apply ol_mv; rfl; rfl); (apply ol_as; rfl; rfl); (apply ol_nil))
        | (refine cw_region_id 6 ?_; (apply ol_val; rfl; apply stp_pur; apply s_add64; rfl; rfl; omega); (apply ol_mv; rfl; rfl); (apply ol_nil))
        | (refine cw_region_id 7 ?_; (apply ol_as; rfl; rfl); (apply ol_nil))
        | (apply cw_cond_true; rfl; exact qA)
        | (apply cw_cond_false; rfl; exact qA)
        | apply cw_skip
        | apply cw_ret
        | apply cw_block
        | apply cw_exit
      refine ⟨k + 1, ⟨by (repeat (first | exact trivial | refine And.intro rfl ?_)), View.le.refl _, by exact qK, ⟨by omega, ?_⟩, by omega⟩⟩
      rw [List.take_succ_eq_append_getElem hk', List.any_append, ht]
      simp [hpx]
  · have ek : k = xs.length := by omega
    repeat' first
      | apply cw_seq
      | (refine cw_region_id 2 ?_; (apply ol_val; rfl; apply stp_cmp; apply s_lss; rfl; rfl; all_goals (intro _; try (exfalso; (first | (rename_i hh; exact hh rfl) | omega)))); all_goals (apply ol_nil))
      | (refine cw_region_id 3 ?_; (apply ol_mv; rfl; rfl); (apply ol_as; rfl; rfl); (apply ol_nil))
      | (refine cw_region_id 4 ?_; (apply ol_mv; rfl; rfl); (apply ol_mv; rfl; rfl); (apply ol_mv; rfl; rfl); (apply ol_val; rfl; apply stp_pur; first | (apply s_indexK; rfl; rfl; exact el_99; exact sz_101; (first | rfl); omega) | (apply s_indexO; rfl; rfl; exact el_99; exact sz_101; (first | rfl); omega)); (apply ol_ldN; rfl; rfl; rfl; exact sz_101; exact qQ))
      | (refine cw_region_id 5 ?_; (apply ol_mv; rfl; rfl); (apply ol_as; rfl; rfl); (apply ol_nil))
      | (refine cw_region_id 6 ?_; (apply ol_val; rfl; apply stp_pur; apply s_add64; rfl; rfl; omega); (apply ol_mv; rfl; rfl); (apply ol_nil))
      | (refine cw_region_id 7 ?_; (apply ol_as; rfl; rfl); (apply ol_nil))
      | (apply cw_cond_true; rfl; exact qA)
      | (apply cw_cond_false; rfl; exact qA)
      | apply cw_skip
      | apply cw_ret
      | apply cw_block
      | apply cw_exit
    refine ends [] (RVal.tmp rfl RVal.nil) Pick.nil ?_
    rw [ek, List.take_length] at ht
    simp [tup, idxI, ht]
theorem anyIt_spec {dd : Nat} {M : View} {w : World} (hM : View.le M (View.of w)) {f : Nat} {cap : List Value} {p : (It dd) → Bool} (hg : goFunc Try.prog f = true) {xs : List (It dd)} (hp : ∀ (w' : World) (x : (It dd)), x ∈ xs → View.le M (View.of w') → FnC Try.prog f ([.agg x.enc.toArray] ++ cap) w' (fun v _ => v = .bool (p x)))
    {r : Bool} (hr : xs.any p = r) {n : Nat} (hn : xs.length = n) {a : Option Addr} {b o c : Nat} (s : SlA M It.enc 4 a xs b o) (hl : xs.length ≤ 4611686018427387904) :
    FnC Try.prog 83 [.slice a n c, .func (.func f) #[] cap.toArray] w (fun v _ => v = .bool r) := by
  subst hr
  refine enterF (M := M) Try.func83 rfl rfl rfl rfl hM ?_
  have hi := idxI_any (p := p) (xs := xs)
  cases hany : xs.any p with
  | true =>
    rw [hany] at hi
    have hi : 0 ≤ idxI p xs := hi.2 rfl
    repeat' first
      | apply cw_seq
      | (refine cw_region_id 0 ?_; (apply ol_as; rfl; rfl); (apply ol_nil))
      | (refine cw_region_id 1 ?_; (apply ol_mv; rfl; rfl); (apply ol_mv; rfl; rfl); (apply ol_val; rfl; apply s_callv; rfl; exact gf_85; (intro w' hw'; exact anyItIdx_spec (View.le.refl (View.of w')) (p := p) hg (fun w'' x hx h => hp w'' x hx (hw'.le.trans h)) rfl hn (s.mono hw'.le) hl)); (apply ol_val; rfl; apply stp_cmp; apply s_geq; rfl; rfl; all_goals (intro _; try (exfalso; (first | (rename_i hh; exact hh rfl) | omega)))); all_goals (apply ol_as; rfl; rfl); all_goals (apply ol_nil))
      | (apply cw_cond_true; rfl; exact qA)
      | (apply cw_cond_false; rfl; exact qA)
      | apply cw_skip
      | apply cw_ret
      | apply cw_block
      | apply cw_exit
    refine ends [] (RVal.tmp rfl RVal.nil) Pick.nil ?_
    rfl
  | false =>
    rw [hany] at hi
    have hi : ¬ 0 ≤ idxI p xs := fun h => by have := hi.1 h; cases this
    repeat' first
      | apply cw_seq
      | (refine cw_region_id 0 ?_; (apply ol_as; rfl; rfl); (apply ol_nil))
      | (refine cw_region_id 1 ?_; (apply ol_mv; rfl; rfl); (apply ol_mv; rfl; rfl); (apply ol_val; rfl; apply s_callv; rfl; exact gf_85; (intro w' hw'; exact anyItIdx_spec (View.le.refl (View.of w')) (p := p) hg (fun w'' x hx h => hp w'' x hx (hw'.le.trans h)) rfl hn (s.mono hw'.le) hl)); (apply ol_val; rfl; apply stp_cmp; apply s_geq; rfl; rfl; all_goals (intro _; try (exfalso; (first | (rename_i hh; exact hh rfl) | omega)))); all_goals (apply ol_as; rfl; rfl); all_goals (apply ol_nil))
      | (apply cw_cond_true; rfl; exact qA)
      | (apply cw_cond_false; rfl; exact qA)
      | apply cw_skip
      | apply cw_ret
      | apply cw_block
      | apply cw_exit
    refine ends [] (RVal.tmp rfl RVal.nil) Pick.nil ?_
    rfl
end Go.Proofs.Ytagmoecojmlogaa
namespace Go.Proofs.Ytagmoecojmlogaa
set_option maxRecDepth 20000
set_option linter.unusedSimpArgs false
set_option linter.unusedVariables false
open Go Go.Fw
attribute [local irreducible] CW OL OD FX Stp FnC FnV Ret
set_option maxHeartbeats 800000
theorem within_leaf {M : View} {w : World} (hM : View.le M (View.of w)) {d : Nat} {x : It d} (hv : HdV M x.hd) (h3 : x.hd.k ≠ 3 ∨ d = 0) :
    FnC Try.prog 81 [.agg x.enc.toArray, .int .i64 d] w (fun v _ => v = .bool (okH x.hd)) := by
  unfold It.enc
  generalize x.hd = h at *
  obtain ⟨k, n, ⟨xs, Ba, Bb, Bo, Bc⟩, La, Lb, Lo, Lc, m⟩ := h
  dsimp only at hv h3 ⊢
  refine enterF (M := M) Try.func81 rfl rfl rfl rfl hM ?_
  by_cases h1 : k = 1
  · rw [okH_1 h1]
    subst h1
    dsimp only
    by_cases hc : xs.length = 0 ∧ m = 0
    · rw [decide_eq_true hc]
      repeat' first
        | apply cw_seq
        | (refine cw_region_id 0 ?_; (apply ol_val; rfl; first | (apply s_boxN; rfl; intro bk2) | (apply s_box1; rfl; rfl; intro bk2)); (apply ol_val; rfl; first | (apply s_boxN; rfl; intro bk3) | (apply s_box1; rfl; rfl; intro bk3)); (apply ol_as; rfl; rfl); (apply ol_nil))
        | (refine cw_region_id 1 ?_; (apply ol_fa; rfl; rfl; exact fd_101_0; exact qZ); (apply ol_ld; rfl; rfl; rfl; exact qP); (apply ol_nil))
        | (refine cw_region_id 2 ?_; (apply ol_val; rfl; apply stp_cmp; apply s_eql; rfl; rfl; all_goals (intro hc8; try (exfalso; (first | exact hc8 rfl | omega)))); all_goals (apply ol_as; rfl; rfl); all_goals (apply ol_nil))
        | (refine cw_region_id 3 ?_; (apply ol_fa; rfl; rfl; exact fd_101_2; exact qZ); (apply ol_ld; rfl; rfl; rfl; exact qP); (apply ol_val; rfl; apply stp_pur; apply s_len; rfl; exact el_26); (apply ol_val; rfl; apply stp_cmp; apply s_eql; rfl; rfl; all_goals (intro hc12; try (exfalso; (first | exact hc12 rfl | omega)))); all_goals (apply ol_mv; rfl; rfl); all_goals (first | (apply ol_gskip; rfl; rfl; exact qA; rfl) | (apply ol_gval; rfl; rfl; rfl; exact qA; apply stp_pur; apply s_fieldAddr'; rfl; exact fd_101_3; exact qZ)); all_goals (first | (apply ol_gskip; rfl; rfl; exact qA; rfl) | (apply ol_gval; rfl; rfl; rfl; exact qA; apply stp_pur; apply s_load1; rfl; rfl; exact qP)); all_goals (first | (apply ol_gskip; rfl; rfl; exact qA; rfl) | (apply ol_gval; rfl; rfl; rfl; exact qA; apply stp_pur; apply s_len; rfl; exact el_99)); all_goals (first | (apply ol_gskip; rfl; rfl; exact qA; rfl) | (apply ol_gval; rfl; rfl; rfl; exact qA; apply stp_cmp; apply s_eql; rfl; rfl; all_goals (intro hc17; try (exfalso; (first | exact hc17 rfl | omega))))); all_goals (apply ol_val; rfl; apply stp_pur; first | (apply s_pick_t; rfl; exact qA; rfl) | (apply s_pick_f; rfl; exact qA; rfl)); all_goals (apply ol_as; rfl; rfl); all_goals (apply ol_nil))
        | (refine cw_region_id 4 ?_; (apply ol_val; rfl; apply stp_cmp; apply s_eql; rfl; rfl; all_goals (intro hc20; try (exfalso; (first | exact hc20 rfl | omega)))); all_goals (apply ol_as; rfl; rfl); all_goals (apply ol_nil))
        | (refine cw_region_id 5 ?_; (apply ol_fa; rfl; rfl; exact fd_101_1; exact qZ); (apply ol_ld; rfl; rfl; rfl; exact qP); (apply ol_val; rfl; apply stp_cmp; apply s_eql; rfl; rfl; all_goals (intro hc23; try (exfalso; (first | exact hc23 rfl | omega)))); all_goals (apply ol_mv; rfl; rfl); all_goals (first | (apply ol_gskip; rfl; rfl; exact qA; rfl) | (apply ol_gval; rfl; rfl; rfl; exact qA; apply stp_pur; apply s_fieldAddr'; rfl; exact fd_101_3; exact qZ)); all_goals (first | (apply ol_gskip; rfl; rfl; exact qA; rfl) | (apply ol_gval; rfl; rfl; rfl; exact qA; apply stp_pur; apply s_load1; rfl; rfl; exact qP)); all_goals (first | (apply ol_gskip; rfl; rfl; exact qA; rfl) | (apply ol_gval; rfl; rfl; rfl; exact qA; apply stp_pur; apply s_len; rfl; exact el_99)); all_goals (first | (apply ol_gskip; rfl; rfl; exact qA; rfl) | (apply ol_gval; rfl; rfl; rfl; exact qA; apply stp_cmp; apply s_eql; rfl; rfl; all_goals (intro hc28; try (exfalso; (first | exact hc28 rfl | omega))))); all_goals (apply ol_val; rfl; apply stp_pur; first | (apply s_pick_t; rfl; exact qA; rfl) | (apply s_pick_f; rfl; exact qA; rfl)); all_goals (apply ol_as; rfl; rfl); all_goals (apply ol_nil))
        | (refine cw_region_id 6 ?_; (apply ol_val; rfl; apply stp_cmp; apply s_eql; rfl; rfl; all_goals (intro hc31; try (exfalso; (first | exact hc31 rfl | omega)))); all_goals (apply ol_as; rfl; rfl); all_goals (apply ol_nil))
        | (refine cw_region_id 7 ?_; (apply ol_fa; rfl; rfl; exact fd_101_1; exact qZ); (apply ol_ld; rfl; rfl; rfl; exact qP); (apply ol_val; rfl; apply stp_cmp; apply s_eql; rfl; rfl; all_goals (intro hc34; try (exfalso; (first | exact hc34 rfl | omega)))); all_goals (apply ol_mv; rfl; rfl); all_goals (first | (apply ol_gskip; rfl; rfl; exact qA; rfl) | (apply ol_gval; rfl; rfl; rfl; exact qA; apply stp_pur; apply s_fieldAddr'; rfl; exact fd_101_2; exact qZ)); all_goals (first | (apply ol_gskip; rfl; rfl; exact qA; rfl) | (apply ol_gval; rfl; rfl; rfl; exact qA; apply stp_pur; apply s_load1; rfl; rfl; exact qP)); all_goals (first | (apply ol_gskip; rfl; rfl; exact qA; rfl) | (apply ol_gval; rfl; rfl; rfl; exact qA; apply stp_pur; apply s_len; rfl; exact el_26)); all_goals (first | (apply ol_gskip; rfl; rfl; exact qA; rfl) | (apply ol_gval; rfl; rfl; rfl; exact qA; apply stp_cmp; apply s_eql; rfl; rfl; all_goals (intro hc39; try (exfalso; (first | exact hc39 rfl | omega))))); all_goals (apply ol_val; rfl; apply stp_pur; first | (apply s_pick_t; rfl; exact qA; rfl) | (apply s_pick_f; rfl; exact qA; rfl)); all_goals (apply ol_mv; rfl; rfl); all_goals (first | (apply ol_gskip; rfl; rfl; exact qA; rfl) | (apply ol_gval; rfl; rfl; rfl; exact qA; apply stp_pur; apply s_load1; rfl; rfl; exact qP)); all_goals (first | (apply ol_gskip; rfl; rfl; exact qA; rfl) | (apply ol_gval; rfl; rfl; rfl; exact qA; apply stp_cmp; apply s_gtr; rfl; rfl; all_goals (intro hc43; try (exfalso; (first | exact hc43 rfl | omega))))); all_goals (apply ol_val; rfl; apply stp_pur; first | (apply s_pick_t; rfl; exact qA; rfl) | (apply s_pick_f; rfl; exact qA; rfl)); all_goals (apply ol_mv; rfl; rfl); all_goals (first | (apply ol_gskip; rfl; rfl; exact qA; rfl) | (apply ol_gval; rfl; rfl; rfl; exact qA; apply stp_pur; apply s_fieldAddr'; rfl; exact fd_101_3; exact qZ)); all_goals (first | (apply ol_gskip; rfl; rfl; exact qA; rfl) | (apply ol_gval; rfl; rfl; rfl; exact qA; apply stp_pur; apply s_load1; rfl; rfl; exact qP)); all_goals (first | (apply ol_gskip; rfl; rfl; exact qA; rfl) | (apply ol_gval; rfl; rfl; rfl; exact qA; apply stp_pur; apply s_len; rfl; exact el_99)); all_goals (first | (apply ol_gskip; rfl; rfl; exact qA; rfl) | (apply ol_gval; rfl; rfl; rfl; exact qA; apply stp_cmp; apply s_leq; rfl; rfl; all_goals (intro hc49; try (exfalso; (first | exact hc49 rfl | omega))))); all_goals (apply ol_val; rfl; apply stp_pur; first | (apply s_pick_t; rfl; exact qA; rfl) | (apply s_pick_f; rfl; exact qA; rfl)); all_goals (apply ol_mv; rfl; rfl); all_goals (first | (apply ol_gskip; rfl; rfl; exact qA; rfl) | (apply ol_gval; rfl; rfl; rfl; exact qA; apply stp_pur; apply s_fieldAddr'; rfl; exact fd_101_3; exact qZ)); all_goals (first | (apply ol_gskip; rfl; rfl; exact qA; rfl) | (apply ol_gval; rfl; rfl; rfl; exact qA; apply stp_pur; apply s_load1; rfl; rfl; exact qP)); all_goals (first | (apply ol_gskip; rfl; rfl; exact qA; rfl) | (apply ol_gval; rfl; rfl; rfl; exact qA; apply stp_pur; apply s_makeFunc; rfl; rfl)); all_goals (apply ol_gskip; rfl; rfl; exact qA; rfl); all_goals (first | (apply ol_gskip; rfl; rfl; exact qA; rfl) | (apply ol_gval; rfl; rfl; rfl; exact qA; apply stp_pur; first | (apply s_not_t; rfl; exact qA) | (apply s_not_f; rfl; exact qA) | (apply s_not; rfl))); all_goals (apply ol_val; rfl; apply stp_pur; first | (apply s_pick_t; rfl; exact qA; rfl) | (apply s_pick_f; rfl; exact qA; rfl)); all_goals (apply ol_as; rfl; rfl); all_goals (apply ol_nil))
        | (refine cw_region_id 8 ?_; (apply ol_as; rfl; rfl); (apply ol_nil))
        | (apply cw_cond_true; rfl; exact qA)
        | (apply cw_cond_false; rfl; exact qA)
        | apply cw_skip
        | apply cw_ret
        | apply cw_block
        | apply cw_exit
      all_goals (refine ends [] (RVal.tmp rfl RVal.nil) Pick.nil ?_; rfl)
    · rw [decide_eq_false hc]
      repeat' first
        | apply cw_seq
        | (refine cw_region_id 0 ?_; (apply ol_val; rfl; first | (apply s_boxN; rfl; intro bk2) | (apply s_box1; rfl; rfl; intro bk2)); (apply ol_val; rfl; first | (apply s_boxN; rfl; intro bk3) | (apply s_box1; rfl; rfl; intro bk3)); (apply ol_as; rfl; rfl); (apply ol_nil))
        | (refine cw_region_id 1 ?_; (apply ol_fa; rfl; rfl; exact fd_101_0; exact qZ); (apply ol_ld; rfl; rfl; rfl; exact qP); (apply ol_nil))
        | (refine cw_region_id 2 ?_; (apply ol_val; rfl; apply stp_cmp; apply s_eql; rfl; rfl; all_goals (intro hc8; try (exfalso; (first | exact hc8 rfl | omega)))); all_goals (apply ol_as; rfl; rfl); all_goals (apply ol_nil))
        | (refine cw_region_id 3 ?_; (apply ol_fa; rfl; rfl; exact fd_101_2; exact qZ); (apply ol_ld; rfl; rfl; rfl; exact qP); (apply ol_val; rfl; apply stp_pur; apply s_len; rfl; exact el_26); (apply ol_val; rfl; apply stp_cmp; apply s_eql; rfl; rfl; all_goals (intro hc12; try (exfalso; (first | exact hc12 rfl | omega)))); all_goals (apply ol_mv; rfl; rfl); all_goals (first | (apply ol_gskip; rfl; rfl; exact qA; rfl) | (apply ol_gval; rfl; rfl; rfl; exact qA; apply stp_pur; apply s_fieldAddr'; rfl; exact fd_101_3; exact qZ)); all_goals (first | (apply ol_gskip; rfl; rfl; exact qA; rfl) | (apply ol_gval; rfl; rfl; rfl; exact qA; apply stp_pur; apply s_load1; rfl; rfl; exact qP)); all_goals (first | (apply ol_gskip; rfl; rfl; exact qA; rfl) | (apply ol_gval; rfl; rfl; rfl; exact qA; apply stp_pur; apply s_len; rfl; exact el_99)); all_goals (first | (apply ol_gskip; rfl; rfl; exact qA; rfl) | (apply ol_gval; rfl; rfl; rfl; exact qA; apply stp_cmp; apply s_eql; rfl; rfl; all_goals (intro hc17; try (exfalso; (first | exact hc17 rfl | omega))))); all_goals (apply ol_val; rfl; apply stp_pur; first | (apply s_pick_t; rfl; exact qA; rfl) | (apply s_pick_f; rfl; exact qA; rfl)); all_goals (apply ol_as; rfl; rfl); all_goals (apply ol_nil))
        | (refine cw_region_id 4 ?_; (apply ol_val; rfl; apply stp_cmp; apply s_eql; rfl; rfl; all_goals (intro hc20; try (exfalso; (first | exact hc20 rfl | omega)))); all_goals (apply ol_as; rfl; rfl); all_goals (apply ol_nil))
        | (refine cw_region_id 5 ?_; (apply ol_fa; rfl; rfl; exact fd_101_1; exact qZ); (apply ol_ld; rfl; rfl; rfl; exact qP); (apply ol_val; rfl; apply stp_cmp; apply s_eql; rfl; rfl; all_goals (intro hc23; try (exfalso; (first | exact hc23 rfl | omega)))); all_goals (apply ol_mv; rfl; rfl); all_goals (first | (apply ol_gskip; rfl; rfl; exact qA; rfl) | (apply ol_gval; rfl; rfl; rfl; exact qA; apply stp_pur; apply s_fieldAddr'; rfl; exact fd_101_3; exact qZ)); all_goals (first | (apply ol_gskip; rfl; rfl; exact qA; rfl) | (apply ol_gval; rfl; rfl; rfl; exact qA; apply stp_pur; apply s_load1; rfl; rfl; exact qP)); all_goals (first | (apply ol_gskip; rfl; rfl; exact qA; rfl) | (apply ol_gval; rfl; rfl; rfl; exact qA; apply stp_pur; apply s_len; rfl; exact el_99)); all_goals (first | (apply ol_gskip; rfl; rfl; exact qA; rfl) | (apply ol_gval; rfl; rfl; rfl; exact qA; apply stp_cmp; apply s_eql; rfl; rfl; all_goals (intro hc28; try (exfalso; (first | exact hc28 rfl | omega))))); all_goals (apply ol_val; rfl; apply stp_pur; first | (apply s_pick_t; rfl; exact qA; rfl) | (apply s_pick_f; rfl; exact qA; rfl)); all_goals (apply ol_as; rfl; rfl); all_goals (apply ol_nil))
        | (refine cw_region_id 6 ?_; (apply ol_val; rfl; apply stp_cmp; apply s_eql; rfl; rfl; all_goals (intro hc31; try (exfalso; (first | exact hc31 rfl | omega)))); all_goals (apply ol_as; rfl; rfl); all_goals (apply ol_nil))
        | (refine cw_region_id 7 ?_; (apply ol_fa; rfl; rfl; exact fd_101_1; exact qZ); (apply ol_ld; rfl; rfl; rfl; exact qP); (apply ol_val; rfl; apply stp_cmp; apply s_eql; rfl; rfl; all_goals (intro hc34; try (exfalso; (first | exact hc34 rfl | omega)))); all_goals (apply ol_mv; rfl; rfl); all_goals (first | (apply ol_gskip; rfl; rfl; exact qA; rfl) | (apply ol_gval; rfl; rfl; rfl; exact qA; apply stp_pur; apply s_fieldAddr'; rfl; exact fd_101_2; exact qZ)); all_goals (first | (apply ol_gskip; rfl; rfl; exact qA; rfl) | (apply ol_gval; rfl; rfl; rfl; exact qA; apply stp_pur; apply s_load1; rfl; rfl; exact qP)); all_goals (first | (apply ol_gskip; rfl; rfl; exact qA; rfl) | (apply ol_gval; rfl; rfl; rfl; exact qA; apply stp_pur; apply s_len; rfl; exact el_26)); all_goals (first | (apply ol_gskip; rfl; rfl; exact qA; rfl) | (apply ol_gval; rfl; rfl; rfl; exact qA; apply stp_cmp; apply s_eql; rfl; rfl; all_goals (intro hc39; try (exfalso; (first | exact hc39 rfl | omega))))); all_goals (apply ol_val; rfl; apply stp_pur; first | (apply s_pick_t; rfl; exact qA; rfl) | (apply s_pick_f; rfl; exact qA; rfl)); all_goals (apply ol_mv; rfl; rfl); all_goals (first | (apply ol_gskip; rfl; rfl; exact qA; rfl) | (apply ol_gval; rfl; rfl; rfl; exact qA; apply stp_pur; apply s_load1; rfl; rfl; exact qP)); all_goals (first | (apply ol_gskip; rfl; rfl; exact qA; rfl) | (apply ol_gval; rfl; rfl; rfl; exact qA; apply stp_cmp; apply s_gtr; rfl; rfl; all_goals (intro hc43; try (exfalso; (first | exact hc43 rfl | omega))))); all_goals (apply ol_val; rfl; apply stp_pur; first | (apply s_pick_t; rfl; exact qA; rfl) | (apply s_pick_f; rfl; exact qA; rfl)); all_goals (apply ol_mv; rfl; rfl); all_goals (first | (apply ol_gskip; rfl; rfl; exact qA; rfl) | (apply ol_gval; rfl; rfl; rfl; exact qA; apply stp_pur; apply s_fieldAddr'; rfl; exact fd_101_3; exact qZ)); all_goals (first | (apply ol_gskip; rfl; rfl; exact qA; rfl) | (apply ol_gval; rfl; rfl; rfl; exact qA; apply stp_pur; apply s_load1; rfl; rfl; exact qP)); all_goals (first | (apply ol_gskip; rfl; rfl; exact qA; rfl) | (apply ol_gval; rfl; rfl; rfl; exact qA; apply stp_pur; apply s_len; rfl; exact el_99)); all_goals (first | (apply ol_gskip; rfl; rfl; exact qA; rfl) | (apply ol_gval; rfl; rfl; rfl; exact qA; apply stp_cmp; apply s_leq; rfl; rfl; all_goals (intro hc49; try (exfalso; (first | exact hc49 rfl | omega))))); all_goals (apply ol_val; rfl; apply stp_pur; first | (apply s_pick_t; rfl; exact qA; rfl) | (apply s_pick_f; rfl; exact qA; rfl)); all_goals (apply ol_mv; rfl; rfl); all_goals (first | (apply ol_gskip; rfl; rfl; exact qA; rfl) | (apply ol_gval; rfl; rfl; rfl; exact qA; apply stp_pur; apply s_fieldAddr'; rfl; exact fd_101_3; exact qZ)); all_goals (first | (apply ol_gskip; rfl; rfl; exact qA; rfl) | (apply ol_gval; rfl; rfl; rfl; exact qA; apply stp_pur; apply s_load1; rfl; rfl; exact qP)); all_goals (first | (apply ol_gskip; rfl; rfl; exact qA; rfl) | (apply ol_gval; rfl; rfl; rfl; exact qA; apply stp_pur; apply s_makeFunc; rfl; rfl)); all_goals (apply ol_gskip; rfl; rfl; exact qA; rfl); all_goals (first | (apply ol_gskip; rfl; rfl; exact qA; rfl) | (apply ol_gval; rfl; rfl; rfl; exact qA; apply stp_pur; first | (apply s_not_t; rfl; exact qA) | (apply s_not_f; rfl; exact qA) | (apply s_not; rfl))); all_goals (apply ol_val; rfl; apply stp_pur; first | (apply s_pick_t; rfl; exact qA; rfl) | (apply s_pick_f; rfl; exact qA; rfl)); all_goals (apply ol_as; rfl; rfl); all_goals (apply ol_nil))
        | (refine cw_region_id 8 ?_; (apply ol_as; rfl; rfl); (apply ol_nil))
        | (apply cw_cond_true; rfl; exact qA)
        | (apply cw_cond_false; rfl; exact qA)
        | apply cw_skip
        | apply cw_ret
        | apply cw_block
        | apply cw_exit
      all_goals (refine ends [] (RVal.tmp rfl RVal.nil) Pick.nil ?_; rfl)
  · by_cases h2 : k = 2
    · rw [okH_2 h2]
      subst h2
      dsimp only
      by_cases hc : n = 0 ∧ m = 0
      · rw [decide_eq_true hc]
        repeat' first
          | apply cw_seq
          | (refine cw_region_id 0 ?_; (apply ol_val; rfl; first | (apply s_boxN; rfl; intro bk2) | (apply s_box1; rfl; rfl; intro bk2)); (apply ol_val; rfl; first | (apply s_boxN; rfl; intro bk3) | (apply s_box1; rfl; rfl; intro bk3)); (apply ol_as; rfl; rfl); (apply ol_nil))
          | (refine cw_region_id 1 ?_; (apply ol_fa; rfl; rfl; exact fd_101_0; exact qZ); (apply ol_ld; rfl; rfl; rfl; exact qP); (apply ol_nil))
          | (refine cw_region_id 2 ?_; (apply ol_val; rfl; apply stp_cmp; apply s_eql; rfl; rfl; all_goals (intro hc8; try (exfalso; (first | exact hc8 rfl | omega)))); all_goals (apply ol_as; rfl; rfl); all_goals (apply ol_nil))
          | (refine cw_region_id 3 ?_; (apply ol_fa; rfl; rfl; exact fd_101_2; exact qZ); (apply ol_ld; rfl; rfl; rfl; exact qP); (apply ol_val; rfl; apply stp_pur; apply s_len; rfl; exact el_26); (apply ol_val; rfl; apply stp_cmp; apply s_eql; rfl; rfl; all_goals (intro hc12; try (exfalso; (first | exact hc12 rfl | omega)))); all_goals (apply ol_mv; rfl; rfl); all_goals (first | (apply ol_gskip; rfl; rfl; exact qA; rfl) | (apply ol_gval; rfl; rfl; rfl; exact qA; apply stp_pur; apply s_fieldAddr'; rfl; exact fd_101_3; exact qZ)); all_goals (first | (apply ol_gskip; rfl; rfl; exact qA; rfl) | (apply ol_gval; rfl; rfl; rfl; exact qA; apply stp_pur; apply s_load1; rfl; rfl; exact qP)); all_goals (first | (apply ol_gskip; rfl; rfl; exact qA; rfl) | (apply ol_gval; rfl; rfl; rfl; exact qA; apply stp_pur; apply s_len; rfl; exact el_99)); all_goals (first | (apply ol_gskip; rfl; rfl; exact qA; rfl) | (apply ol_gval; rfl; rfl; rfl; exact qA; apply stp_cmp; apply s_eql; rfl; rfl; all_goals (intro hc17; try (exfalso; (first | exact hc17 rfl | omega))))); all_goals (apply ol_val; rfl; apply stp_pur; first | (apply s_pick_t; rfl; exact qA; rfl) | (apply s_pick_f; rfl; exact qA; rfl)); all_goals (apply ol_as; rfl; rfl); all_goals (apply ol_nil))
          | (refine cw_region_id 4 ?_; (apply ol_val; rfl; apply stp_cmp; apply s_eql; rfl; rfl; all_goals (intro hc20; try (exfalso; (first | exact hc20 rfl | omega)))); all_goals (apply ol_as; rfl; rfl); all_goals (apply ol_nil))
          | (refine cw_region_id 5 ?_; (apply ol_fa; rfl; rfl; exact fd_101_1; exact qZ); (apply ol_ld; rfl; rfl; rfl; exact qP); (apply ol_val; rfl; apply stp_cmp; apply s_eql; rfl; rfl; all_goals (intro hc23; try (exfalso; (first | exact hc23 rfl | omega)))); all_goals (apply ol_mv; rfl; rfl); all_goals (first | (apply ol_gskip; rfl; rfl; exact qA; rfl) | (apply ol_gval; rfl; rfl; rfl; exact qA; apply stp_pur; apply s_fieldAddr'; rfl; exact fd_101_3; exact qZ)); all_goals (first | (apply ol_gskip; rfl; rfl; exact qA; rfl) | (apply ol_gval; rfl; rfl; rfl; exact qA; apply stp_pur; apply s_load1; rfl; rfl; exact qP)); all_goals (first | (apply ol_gskip; rfl; rfl; exact qA; rfl) | (apply ol_gval; rfl; rfl; rfl; exact qA; apply stp_pur; apply s_len; rfl; exact el_99)); all_goals (first | (apply ol_gskip; rfl; rfl; exact qA; rfl) | (apply ol_gval; rfl; rfl; rfl; exact qA; apply stp_cmp; apply s_eql; rfl; rfl; all_goals (intro hc28; try (exfalso; (first | exact hc28 rfl | omega))))); all_goals (apply ol_val; rfl; apply stp_pur; first | (apply s_pick_t; rfl; exact qA; rfl) | (apply s_pick_f; rfl; exact qA; rfl)); all_goals (apply ol_as; rfl; rfl); all_goals (apply ol_nil))
          | (refine cw_region_id 6 ?_; (apply ol_val; rfl; apply stp_cmp; apply s_eql; rfl; rfl; all_goals (intro hc31; try (exfalso; (first | exact hc31 rfl | omega)))); all_goals (apply ol_as; rfl; rfl); all_goals (apply ol_nil))
          | (refine cw_region_id 7 ?_; (apply ol_fa; rfl; rfl; exact fd_101_1; exact qZ); (apply ol_ld; rfl; rfl; rfl; exact qP); (apply ol_val; rfl; apply stp_cmp; apply s_eql; rfl; rfl; all_goals (intro hc34; try (exfalso; (first | exact hc34 rfl | omega)))); all_goals (apply ol_mv; rfl; rfl); all_goals (first | (apply ol_gskip; rfl; rfl; exact qA; rfl) | (apply ol_gval; rfl; rfl; rfl; exact qA; apply stp_pur; apply s_fieldAddr'; rfl; exact fd_101_2; exact qZ)); all_goals (first | (apply ol_gskip; rfl; rfl; exact qA; rfl) | (apply ol_gval; rfl; rfl; rfl; exact qA; apply stp_pur; apply s_load1; rfl; rfl; exact qP)); all_goals (first | (apply ol_gskip; rfl; rfl; exact qA; rfl) | (apply ol_gval; rfl; rfl; rfl; exact qA; apply stp_pur; apply s_len; rfl; exact el_26)); all_goals (first | (apply ol_gskip; rfl; rfl; exact qA; rfl) | (apply ol_gval; rfl; rfl; rfl; exact qA; apply stp_cmp; apply s_eql; rfl; rfl; all_goals (intro hc39; try (exfalso; (first | exact hc39 rfl | omega))))); all_goals (apply ol_val; rfl; apply stp_pur; first | (apply s_pick_t; rfl; exact qA; rfl) | (apply s_pick_f; rfl; exact qA; rfl)); all_goals (apply ol_mv; rfl; rfl); all_goals (first | (apply ol_gskip; rfl; rfl; exact qA; rfl) | (apply ol_gval; rfl; rfl; rfl; exact qA; apply stp_pur; apply s_load1; rfl; rfl; exact qP)); all_goals (first | (apply ol_gskip; rfl; rfl; exact qA; rfl) | (apply ol_gval; rfl; rfl; rfl; exact qA; apply stp_cmp; apply s_gtr; rfl; rfl; all_goals (intro hc43; try (exfalso; (first | exact hc43 rfl | omega))))); all_goals (apply ol_val; rfl; apply stp_pur; first | (apply s_pick_t; rfl; exact qA; rfl) | (apply s_pick_f; rfl; exact qA; rfl)); all_goals (apply ol_mv; rfl; rfl); all_goals (first | (apply ol_gskip; rfl; rfl; exact qA; rfl) | (apply ol_gval; rfl; rfl; rfl; exact qA; apply stp_pur; apply s_fieldAddr'; rfl; exact fd_101_3; exact qZ)); all_goals (first | (apply ol_gskip; rfl; rfl; exact qA; rfl) | (apply ol_gval; rfl; rfl; rfl; exact qA; apply stp_pur; apply s_load1; rfl; rfl; exact qP)); all_goals (first | (apply ol_gskip; rfl; rfl; exact qA; rfl) | (apply ol_gval; rfl; rfl; rfl; exact qA; apply stp_pur; apply s_len; rfl; exact el_99)); all_goals (first | (apply ol_gskip; rfl; rfl; exact qA; rfl) | (apply ol_gval; rfl; rfl; rfl; exact qA; apply stp_cmp; apply s_leq; rfl; rfl; all_goals (intro hc49; try (exfalso; (first | exact hc49 rfl | omega))))); all_goals (apply ol_val; rfl; apply stp_pur; first | (apply s_pick_t; rfl; exact qA; rfl) | (apply s_pick_f; rfl; exact qA; rfl)); all_goals (apply ol_mv; rfl; rfl); all_goals (first | (apply ol_gskip; rfl; rfl; exact qA; rfl) | (apply ol_gval; rfl; rfl; rfl; exact qA; apply stp_pur; apply s_fieldAddr'; rfl; exact fd_101_3; exact qZ)); all_goals (first | (apply ol_gskip; rfl; rfl; exact qA; rfl) | (apply ol_gval; rfl; rfl; rfl; exact qA; apply stp_pur; apply s_load1; rfl; rfl; exact qP)); all_goals (first | (apply ol_gskip; rfl; rfl; exact qA; rfl) | (apply ol_gval; rfl; rfl; rfl; exact qA; apply stp_pur; apply s_makeFunc; rfl; rfl)); all_goals (apply ol_gskip; rfl; rfl; exact qA; rfl); all_goals (first | (apply ol_gskip; rfl; rfl; exact qA; rfl) | (apply ol_gval; rfl; rfl; rfl; exact qA; apply stp_pur; first | (apply s_not_t; rfl; exact qA) | (apply s_not_f; rfl; exact qA) | (apply s_not; rfl))); all_goals (apply ol_val; rfl; apply stp_pur; first | (apply s_pick_t; rfl; exact qA; rfl) | (apply s_pick_f; rfl; exact qA; rfl)); all_goals (apply ol_as; rfl; rfl); all_goals (apply ol_nil))
          | (refine cw_region_id 8 ?_; (apply ol_as; rfl; rfl); (apply ol_nil))
          | (apply cw_cond_true; rfl; exact qA)
          | (apply cw_cond_false; rfl; exact qA)
          | apply cw_skip
          | apply cw_ret
          | apply cw_block
          | apply cw_exit
        all_goals (refine ends [] (RVal.tmp rfl RVal.nil) Pick.nil ?_; rfl)
      · rw [decide_eq_false hc]
        repeat' first
          | apply cw_seq
          | (refine cw_region_id 0 ?_; (apply ol_val; rfl; first | (apply s_boxN; rfl; intro bk2) | (apply s_box1; rfl; rfl; intro bk2)); (apply ol_val; rfl; first | (apply s_boxN; rfl; intro bk3) | (apply s_box1; rfl; rfl; intro bk3)); (apply ol_as; rfl; rfl); (apply ol_nil))
          | (refine cw_region_id 1 ?_; (apply ol_fa; rfl; rfl; exact fd_101_0; exact qZ); (apply ol_ld; rfl; rfl; rfl; exact qP); (apply ol_nil))
          | (refine cw_region_id 2 ?_; (apply ol_val; rfl; apply stp_cmp; apply s_eql; rfl; rfl; all_goals (intro hc8; try (exfalso; (first | exact hc8 rfl | omega)))); all_goals (apply ol_as; rfl; rfl); all_goals (apply ol_nil))
          | (refine cw_region_id 3 ?_; (apply ol_fa; rfl; rfl; exact fd_101_2; exact qZ); (apply ol_ld; rfl; rfl; rfl; exact qP); (apply ol_val; rfl; apply stp_pur; apply s_len; rfl; exact el_26); (apply ol_val; rfl; apply stp_cmp; apply s_eql; rfl; rfl; all_goals (intro hc12; try (exfalso; (first | exact hc12 rfl | omega)))); all_goals (apply ol_mv; rfl; rfl); all_goals (first | (apply ol_gskip; rfl; rfl; exact qA; rfl) | (apply ol_gval; rfl; rfl; rfl; exact qA; apply stp_pur; apply s_fieldAddr'; rfl; exact fd_101_3; exact qZ)); all_goals (first | (apply ol_gskip; rfl; rfl; exact qA; rfl) | (apply ol_gval; rfl; rfl; rfl; exact qA; apply stp_pur; apply s_load1; rfl; rfl; exact qP)); all_goals (first | (apply ol_gskip; rfl; rfl; exact qA; rfl) | (apply ol_gval; rfl; rfl; rfl; exact qA; apply stp_pur; apply s_len; rfl; exact el_99)); all_goals (first | (apply ol_gskip; rfl; rfl; exact qA; rfl) | (apply ol_gval; rfl; rfl; rfl; exact qA; apply stp_cmp; apply s_eql; rfl; rfl; all_goals (intro hc17; try (exfalso; (first | exact hc17 rfl | omega))))); all_goals (apply ol_val; rfl; apply stp_pur; first | (apply s_pick_t; rfl; exact qA; rfl) | (apply s_pick_f; rfl; exact qA; rfl)); all_goals (apply ol_as; rfl; rfl); all_goals (apply ol_nil))
          | (refine cw_region_id 4 ?_; (apply ol_val; rfl; apply stp_cmp; apply s_eql; rfl; rfl; all_goals (intro hc20; try (exfalso; (first | exact hc20 rfl | omega)))); all_goals (apply ol_as; rfl; rfl); all_goals (apply ol_nil))
          | (refine cw_region_id 5 ?_; (apply ol_fa; rfl; rfl; exact fd_101_1; exact qZ); (apply ol_ld; rfl; rfl; rfl; exact qP); (apply ol_val; rfl; apply stp_cmp; apply s_eql; rfl; rfl; all_goals (intro hc23; try (exfalso; (first | exact hc23 rfl | omega)))); all_goals (apply ol_mv; rfl; rfl); all_goals (first | (apply ol_gskip; rfl; rfl; exact qA; rfl) | (apply ol_gval; rfl; rfl; rfl; exact qA; apply stp_pur; apply s_fieldAddr'; rfl; exact fd_101_3; exact qZ)); all_goals (first | (apply ol_gskip; rfl; rfl; exact qA; rfl) | (apply ol_gval; rfl; rfl; rfl; exact qA; apply stp_pur; apply s_load1; rfl; rfl; exact qP)); all_goals (first | (apply ol_gskip; rfl; rfl; exact qA; rfl) | (apply ol_gval; rfl; rfl; rfl; exact qA; apply stp_pur; apply s_len; rfl; exact el_99)); all_goals (first | (apply ol_gskip; rfl; rfl; exact qA; rfl) | (apply ol_gval; rfl; rfl; rfl; exact qA; apply stp_cmp; apply s_eql; rfl; rfl; all_goals (intro hc28; try (exfalso; (first | exact hc28 rfl | omega))))); all_goals (apply ol_val; rfl; apply stp_pur; first | (apply s_pick_t; rfl; exact qA; rfl) | (apply s_pick_f; rfl; exact qA; rfl)); all_goals (apply ol_as; rfl; rfl); all_goals (apply ol_nil))
          | (refine cw_region_id 6 ?_; (apply ol_val; rfl; apply stp_cmp; apply s_eql; rfl; rfl; all_goals (intro hc31; try (exfalso; (first | exact hc31 rfl | omega)))); all_goals (apply ol_as; rfl; rfl); all_goals (apply ol_nil))
          | (refine cw_region_id 7 ?_; (apply ol_fa; rfl; rfl; exact fd_101_1; exact qZ); (apply ol_ld; rfl; rfl; rfl; exact qP); (apply ol_val; rfl; apply stp_cmp; apply s_eql; rfl; rfl; all_goals (intro hc34; try (exfalso; (first | exact hc34 rfl | omega)))); all_goals (apply ol_mv; rfl; rfl); all_goals (first | (apply ol_gskip; rfl; rfl; exact qA; rfl) | (apply ol_gval; rfl; rfl; rfl; exact qA; apply stp_pur; apply s_fieldAddr'; rfl; exact fd_101_2; exact qZ)); all_goals (first | (apply ol_gskip; rfl; rfl; exact qA; rfl) | (apply ol_gval; rfl; rfl; rfl; exact qA; apply stp_pur; apply s_load1; rfl; rfl; exact qP)); all_goals (first | (apply ol_gskip; rfl; rfl; exact qA; rfl) | (apply ol_gval; rfl; rfl; rfl; exact qA; apply stp_pur; apply s_len; rfl; exact el_26)); all_goals (first | (apply ol_gskip; rfl; rfl; exact qA; rfl) | (apply ol_gval; rfl; rfl; rfl; exact qA; apply stp_cmp; apply s_eql; rfl; rfl; all_goals (intro hc39; try (exfalso; (first | exact hc39 rfl | omega))))); all_goals (apply ol_val; rfl; apply stp_pur; first | (apply s_pick_t; rfl; exact qA; rfl) | (apply s_pick_f; rfl; exact qA; rfl)); all_goals (apply ol_mv; rfl; rfl); all_goals (first | (apply ol_gskip; rfl; rfl; exact qA; rfl) | (apply ol_gval; rfl; rfl; rfl; exact qA; apply stp_pur; apply s_load1; rfl; rfl; exact qP)); all_goals (first | (apply ol_gskip; rfl; rfl; exact qA; rfl) | (apply ol_gval; rfl; rfl; rfl; exact qA; apply stp_cmp; apply s_gtr; rfl; rfl; all_goals (intro hc43; try (exfalso; (first | exact hc43 rfl | omega))))); all_goals (apply ol_val; rfl; apply stp_pur; first | (apply s_pick_t; rfl; exact qA; rfl) | (apply s_pick_f; rfl; exact qA; rfl)); all_goals (apply ol_mv; rfl; rfl); all_goals (first | (apply ol_gskip; rfl; rfl; exact qA; rfl) | (apply ol_gval; rfl; rfl; rfl; exact qA; apply stp_pur; apply s_fieldAddr'; rfl; exact fd_101_3; exact qZ)); all_goals (first | (apply ol_gskip; rfl; rfl; exact qA; rfl) | (apply ol_gval; rfl; rfl; rfl; exact qA; apply stp_pur; apply s_load1; rfl; rfl; exact qP)); all_goals (first | (apply ol_gskip; rfl; rfl; exact qA; rfl) | (apply ol_gval; rfl; rfl; rfl; exact qA; apply stp_pur; apply s_len; rfl; exact el_99)); all_goals (first | (apply ol_gskip; rfl; rfl; exact qA; rfl) | (apply ol_gval; rfl; rfl; rfl; exact qA; apply stp_cmp; apply s_leq; rfl; rfl; all_goals (intro hc49; try (exfalso; (first | exact hc49 rfl | omega))))); all_goals (apply ol_val; rfl; apply stp_pur; first | (apply s_pick_t; rfl; exact qA; rfl) | (apply s_pick_f; rfl; exact qA; rfl)); all_goals (apply ol_mv; rfl; rfl); all_goals (first | (apply ol_gskip; rfl; rfl; exact qA; rfl) | (apply ol_gval; rfl; rfl; rfl; exact qA; apply stp_pur; apply s_fieldAddr'; rfl; exact fd_101_3; exact qZ)); all_goals (first | (apply ol_gskip; rfl; rfl; exact qA; rfl) | (apply ol_gval; rfl; rfl; rfl; exact qA; apply stp_pur; apply s_load1; rfl; rfl; exact qP)); all_goals (first | (apply ol_gskip; rfl; rfl; exact qA; rfl) | (apply ol_gval; rfl; rfl; rfl; exact qA; apply stp_pur; apply s_makeFunc; rfl; rfl)); all_goals (apply ol_gskip; rfl; rfl; exact qA; rfl); all_goals (first | (apply ol_gskip; rfl; rfl; exact qA; rfl) | (apply ol_gval; rfl; rfl; rfl; exact qA; apply stp_pur; first | (apply s_not_t; rfl; exact qA) | (apply s_not_f; rfl; exact qA) | (apply s_not; rfl))); all_goals (apply ol_val; rfl; apply stp_pur; first | (apply s_pick_t; rfl; exact qA; rfl) | (apply s_pick_f; rfl; exact qA; rfl)); all_goals (apply ol_as; rfl; rfl); all_goals (apply ol_nil))
          | (refine cw_region_id 8 ?_; (apply ol_as; rfl; rfl); (apply ol_nil))
          | (apply cw_cond_true; rfl; exact qA)
          | (apply cw_cond_false; rfl; exact qA)
          | apply cw_skip
          | apply cw_ret
          | apply cw_block
          | apply cw_exit
        all_goals (refine ends [] (RVal.tmp rfl RVal.nil) Pick.nil ?_; rfl)
    · rw [okH_0 h1 h2]
      repeat' first
        | apply cw_seq
        | (refine cw_region_id 0 ?_; (apply ol_val; rfl; first | (apply s_boxN; rfl; intro bk2) | (apply s_box1; rfl; rfl; intro bk2)); (apply ol_val; rfl; first | (apply s_boxN; rfl; intro bk3) | (apply s_box1; rfl; rfl; intro bk3)); (apply ol_as; rfl; rfl); (apply ol_nil))
        | (refine cw_region_id 1 ?_; (apply ol_fa; rfl; rfl; exact fd_101_0; exact qZ); (apply ol_ld; rfl; rfl; rfl; exact qP); (apply ol_nil))
        | (refine cw_region_id 2 ?_; (apply ol_val; rfl; apply stp_cmp; apply s_eql; rfl; rfl; all_goals (intro hc8; try (exfalso; (first | exact hc8 rfl | omega)))); all_goals (apply ol_as; rfl; rfl); all_goals (apply ol_nil))
        | (refine cw_region_id 3 ?_; (apply ol_fa; rfl; rfl; exact fd_101_2; exact qZ); (apply ol_ld; rfl; rfl; rfl; exact qP); (apply ol_val; rfl; apply stp_pur; apply s_len; rfl; exact el_26); (apply ol_val; rfl; apply stp_cmp; apply s_eql; rfl; rfl; all_goals (intro hc12; try (exfalso; (first | exact hc12 rfl | omega)))); all_goals (apply ol_mv; rfl; rfl); all_goals (first | (apply ol_gskip; rfl; rfl; exact qA; rfl) | (apply ol_gval; rfl; rfl; rfl; exact qA; apply stp_pur; apply s_fieldAddr'; rfl; exact fd_101_3; exact qZ)); all_goals (first | (apply ol_gskip; rfl; rfl; exact qA; rfl) | (apply ol_gval; rfl; rfl; rfl; exact qA; apply stp_pur; apply s_load1; rfl; rfl; exact qP)); all_goals (first | (apply ol_gskip; rfl; rfl; exact qA; rfl) | (apply ol_gval; rfl; rfl; rfl; exact qA; apply stp_pur; apply s_len; rfl; exact el_99)); all_goals (first | (apply ol_gskip; rfl; rfl; exact qA; rfl) | (apply ol_gval; rfl; rfl; rfl; exact qA; apply stp_cmp; apply s_eql; rfl; rfl; all_goals (intro hc17; try (exfalso; (first | exact hc17 rfl | omega))))); all_goals (apply ol_val; rfl; apply stp_pur; first | (apply s_pick_t; rfl; exact qA; rfl) | (apply s_pick_f; rfl; exact qA; rfl)); all_goals (apply ol_as; rfl; rfl); all_goals (apply ol_nil))
        | (refine cw_region_id 4 ?_; (apply ol_val; rfl; apply stp_cmp; apply s_eql; rfl; rfl; all_goals (intro hc20; try (exfalso; (first | exact hc20 rfl | omega)))); all_goals (apply ol_as; rfl; rfl); all_goals (apply ol_nil))
        | (refine cw_region_id 5 ?_; (apply ol_fa; rfl; rfl; exact fd_101_1; exact qZ); (apply ol_ld; rfl; rfl; rfl; exact qP); (apply ol_val; rfl; apply stp_cmp; apply s_eql; rfl; rfl; all_goals (intro hc23; try (exfalso; (first | exact hc23 rfl | omega)))); all_goals (apply ol_mv; rfl; rfl); all_goals (first | (apply ol_gskip; rfl; rfl; exact qA; rfl) | (apply ol_gval; rfl; rfl; rfl; exact qA; apply stp_pur; apply s_fieldAddr'; rfl; exact fd_101_3; exact qZ)); all_goals (first | (apply ol_gskip; rfl; rfl; exact qA; rfl) | (apply ol_gval; rfl; rfl; rfl; exact qA; apply stp_pur; apply s_load1; rfl; rfl; exact qP)); all_goals (first | (apply ol_gskip; rfl; rfl; exact qA; rfl) | (apply ol_gval; rfl; rfl; rfl; exact qA; apply stp_pur; apply s_len; rfl; exact el_99)); all_goals (first | (apply ol_gskip; rfl; rfl; exact qA; rfl) | (apply ol_gval; rfl; rfl; rfl; exact qA; apply stp_cmp; apply s_eql; rfl; rfl; all_goals (intro hc28; try (exfalso; (first | exact hc28 rfl | omega))))); all_goals (apply ol_val; rfl; apply stp_pur; first | (apply s_pick_t; rfl; exact qA; rfl) | (apply s_pick_f; rfl; exact qA; rfl)); all_goals (apply ol_as; rfl; rfl); all_goals (apply ol_nil))
        | (refine cw_region_id 6 ?_; (apply ol_val; rfl; apply stp_cmp; apply s_eql; rfl; rfl; all_goals (intro hc31; try (exfalso; (first | exact hc31 rfl | omega)))); all_goals (apply ol_as; rfl; rfl); all_goals (apply ol_nil))
        | (refine cw_region_id 7 ?_; (apply ol_fa; rfl; rfl; exact fd_101_1; exact qZ); (apply ol_ld; rfl; rfl; rfl; exact qP); (apply ol_val; rfl; apply stp_cmp; apply s_eql; rfl; rfl; all_goals (intro hc34; try (exfalso; (first | exact hc34 rfl | omega)))); all_goals (apply ol_mv; rfl; rfl); all_goals (first | (apply ol_gskip; rfl; rfl; exact qA; rfl) | (apply ol_gval; rfl; rfl; rfl; exact qA; apply stp_pur; apply s_fieldAddr'; rfl; exact fd_101_2; exact qZ)); all_goals (first | (apply ol_gskip; rfl; rfl; exact qA; rfl) | (apply ol_gval; rfl; rfl; rfl; exact qA; apply stp_pur; apply s_load1; rfl; rfl; exact qP)); all_goals (first | (apply ol_gskip; rfl; rfl; exact qA; rfl) | (apply ol_gval; rfl; rfl; rfl; exact qA; apply stp_pur; apply s_len; rfl; exact el_26)); all_goals (first | (apply ol_gskip; rfl; rfl; exact qA; rfl) | (apply ol_gval; rfl; rfl; rfl; exact qA; apply stp_cmp; apply s_eql; rfl; rfl; all_goals (intro hc39; try (exfalso; (first | exact hc39 rfl | omega))))); all_goals (apply ol_val; rfl; apply stp_pur; first | (apply s_pick_t; rfl; exact qA; rfl) | (apply s_pick_f; rfl; exact qA; rfl)); all_goals (apply ol_mv; rfl; rfl); all_goals (first | (apply ol_gskip; rfl; rfl; exact qA; rfl) | (apply ol_gval; rfl; rfl; rfl; exact qA; apply stp_pur; apply s_load1; rfl; rfl; exact qP)); all_goals (first | (apply ol_gskip; rfl; rfl; exact qA; rfl) | (apply ol_gval; rfl; rfl; rfl; exact qA; apply stp_cmp; apply s_gtr; rfl; rfl; all_goals (intro hc43; try (exfalso; (first | exact hc43 rfl | omega))))); all_goals (apply ol_val; rfl; apply stp_pur; first | (apply s_pick_t; rfl; exact qA; rfl) | (apply s_pick_f; rfl; exact qA; rfl)); all_goals (apply ol_mv; rfl; rfl); all_goals (first | (apply ol_gskip; rfl; rfl; exact qA; rfl) | (apply ol_gval; rfl; rfl; rfl; exact qA; apply stp_pur; apply s_fieldAddr'; rfl; exact fd_101_3; exact qZ)); all_goals (first | (apply ol_gskip; rfl; rfl; exact qA; rfl) | (apply ol_gval; rfl; rfl; rfl; exact qA; apply stp_pur; apply s_load1; rfl; rfl; exact qP)); all_goals (first | (apply ol_gskip; rfl; rfl; exact qA; rfl) | (apply ol_gval; rfl; rfl; rfl; exact qA; apply stp_pur; apply s_len; rfl; exact el_99)); all_goals (first | (apply ol_gskip; rfl; rfl; exact qA; rfl) | (apply ol_gval; rfl; rfl; rfl; exact qA; apply stp_cmp; apply s_leq; rfl; rfl; all_goals (intro hc49; try (exfalso; (first | exact hc49 rfl | omega))))); all_goals (apply ol_val; rfl; apply stp_pur; first | (apply s_pick_t; rfl; exact qA; rfl) | (apply s_pick_f; rfl; exact qA; rfl)); all_goals (apply ol_mv; rfl; rfl); all_goals (first | (apply ol_gskip; rfl; rfl; exact qA; rfl) | (apply ol_gval; rfl; rfl; rfl; exact qA; apply stp_pur; apply s_fieldAddr'; rfl; exact fd_101_3; exact qZ)); all_goals (first | (apply ol_gskip; rfl; rfl; exact qA; rfl) | (apply ol_gval; rfl; rfl; rfl; exact qA; apply stp_pur; apply s_load1; rfl; rfl; exact qP)); all_goals (first | (apply ol_gskip; rfl; rfl; exact qA; rfl) | (apply ol_gval; rfl; rfl; rfl; exact qA; apply stp_pur; apply s_makeFunc; rfl; rfl)); all_goals (first | (apply ol_gskip; rfl; rfl; exact qA; rfl) | (apply ol_gval; rfl; rfl; rfl; exact qA; fail)); all_goals (first | (apply ol_gskip; rfl; rfl; exact qA; rfl) | (apply ol_gval; rfl; rfl; rfl; exact qA; apply stp_pur; first | (apply s_not_t; rfl; exact qA) | (apply s_not_f; rfl; exact qA) | (apply s_not; rfl))); all_goals (apply ol_val; rfl; apply stp_pur; first | (apply s_pick_t; rfl; exact qA; rfl) | (apply s_pick_f; rfl; exact qA; rfl)); all_goals (apply ol_as; rfl; rfl); all_goals (apply ol_nil))
        | (refine cw_region_id 8 ?_; (apply ol_as; rfl; rfl); (apply ol_nil))
        | (apply cw_cond_true; rfl; exact qA)
        | (apply cw_cond_false; rfl; exact qA)
        | apply cw_skip
        | apply cw_ret
        | apply cw_block
        | apply cw_exit
      all_goals (refine ends [] (RVal.tmp rfl RVal.nil) Pick.nil ?_; rfl)
/-- What the function that is handed on says of an item in a list. -/
theorem clo_spec {M : View} {w : World} (hM : View.le M (View.of w)) {d : Nat} (hd : d ≤ 100) {x : It d} {r : Bool} (ih : ∀ (w' : World), View.le M (View.of w') → FnC Try.prog 81 [.agg x.enc.toArray, .int .i64 d] w' (fun v _ => v = .bool r)) {b : Nat} (hb : GetN (M.cell b) 0 1 [.int .i64 ((d + 1 : Nat) : Int)]) :
    FnC Try.prog 84 [.agg x.enc.toArray, .pointer (some ⟨b, 0, none⟩)] w (fun v _ => v = .bool (!r)) := by
  rw [show ((d : Nat) : Int) = ((d + 1 : Nat) : Int) - 1 by omega] at ih
  unfold It.enc at *
  generalize x.hd = h at *
  obtain ⟨k, n, ⟨xs, Ba, Bb, Bo, Bc⟩, La, Lb, Lo, Lc, m⟩ := h
  dsimp only at ih ⊢
  refine enterF (M := M) Try.func84 rfl rfl rfl rfl hM ?_
  repeat' first
    | apply cw_seq
    | (refine cw_region_id 0 ?_; (apply ol_val; rfl; first | (apply s_boxN; rfl; intro bk2) | (apply s_box1; rfl; rfl; intro bk2)); (apply ol_as; rfl; rfl); (apply ol_nil))
    | (refine cw_region_id 1 ?_; (apply ol_ldN; rfl; rfl; rfl; exact sz_101; (first | exact qQ | (apply RdN.view; exact hb))); (apply ol_ld; rfl; rfl; rfl; (first | exact qP | (apply RdN.view; exact hb))); (apply ol_val; rfl; apply stp_pur; apply s_sub64; rfl; rfl; omega); (apply ol_val; rfl; apply s_callv; rfl; exact gf_81; (intro w' hw'; exact ih w' hw'.le)); (apply ol_val; rfl; apply stp_pur; first | (apply s_not_t; rfl; exact qA) | (apply s_not_f; rfl; exact qA) | (apply s_not; rfl)); (apply ol_as; rfl; rfl); (apply ol_nil))
    | (apply cw_cond_true; rfl; exact qA)
    | (apply cw_cond_false; rfl; exact qA)
    | apply cw_skip
    | apply cw_ret
    | apply cw_block
    | apply cw_exit
  refine ends [] (RVal.tmp rfl RVal.nil) Pick.nil ?_
  rfl
end Go.Proofs.Ytagmoecojmlogaa
namespace Go.Proofs.Ytagmoecojmlogaa
set_option maxRecDepth 20000
set_option linter.unusedSimpArgs false
set_option linter.unusedVariables false
open Go Go.Fw
attribute [local irreducible] CW OL OD FX Stp FnC FnV Ret
set_option maxHeartbeats 1600000
theorem within_spec : ∀ (d : Nat), d ≤ 8 → ∀ {M : View} {w : World}, View.le M (View.of w) → ∀ {x : It d}, ItV M d x →
    FnC Try.prog 81 [.agg x.enc.toArray, .int .i64 d] w (fun v _ => v = .bool (okI d x)) := by
  intro d
  induction d with
  | zero =>
    intro _ M w hM x hx
    rw [okI_leaf (.inr rfl)]
    exact within_leaf hM hx.head (.inr rfl)
  | succ d ih =>
    intro hd M w hM x hx
    by_cases h3 : x.hd.k = 3
    · obtain ⟨h, L⟩ := x
      obtain ⟨hv, hl, sL, hL⟩ := hx
      have h3' : h.k = 3 := h3
      have e : okI (d + 1) (h, L) = (decide (h.n = 0 ∧ h.B.xs.length = 0 ∧ h.m ≤ 1000) && L.all (okI d)) := by
        show (if h.k = 3 then decide (h.n = 0 ∧ h.B.xs.length = 0 ∧ h.m ≤ 1000) && L.all (okI d) else okH h) = _
        rw [if_pos h3']
      rw [e]
      have hxe : It.enc (d := d + 1) (h, L) = [.int .i64 h.k, .int .i64 h.n, .slice h.B.a h.B.xs.length h.B.c, .slice h.La h.m h.Lc] := rfl
      rw [hxe]
      clear hxe e h3
      obtain ⟨k, n, ⟨xs, Ba, Bb, Bo, Bc⟩, La, Lb, Lo, Lc, m⟩ := h
      dsimp only at hv hl sL h3' ⊢
      subst h3'
      have hm4 := hv.2.2.2
      dsimp only at hm4
      have hany : L.any (fun x => !okI d x) = !L.all (okI d) := by rw [List.all_eq_not_any_not]; simp
      have kc : ∀ (w' : World) (b : Nat), View.le M (View.of w') → OB.ok ⟨some b, [.int .i64 ((d + 1 : Nat) : Int)], 3⟩ w' → FnC Try.prog 83 [.slice La m Lc, .func (.func 84) #[] [.pointer (some ⟨b, 0, none⟩)].toArray] w' (fun v _ => v = .bool (!L.all (okI d))) := fun w' b h hb =>
        anyIt_spec (View.le.refl (View.of w')) (cap := [.pointer (some ⟨b, 0, none⟩)]) (p := fun x => !okI d x) (f := 84) (by kernel_rfl) (xs := L) (fun w'' x hx h2 => clo_spec h2 (by omega) (fun w3 h3 => ih (by omega) (View.le.trans h h3) (hL x hx)) (show GetN ((View.of w').cell b) 0 1 [.int .i64 ((d + 1 : Nat) : Int)] from GetN.cons (OB.cell hb (by rfl)) GetN.nil)) hany hl (sL.mono h) (by omega)
      generalize L.all (okI d) = r at *
      refine enterF (M := M) Try.func81 rfl rfl rfl rfl hM ?_
      by_cases hc : n = 0 ∧ xs.length = 0 ∧ m ≤ 1000
      · rw [decide_eq_true hc, Bool.true_and]
        cases r with
        | true =>
          repeat' first
            | apply cw_seq
            | (refine cw_region_id 0 ?_; (apply ol_val; rfl; first | (apply s_boxN; rfl; intro bk2) | (apply s_box1; rfl; rfl; intro bk2)); (apply ol_val; rfl; first | (apply s_boxN; rfl; intro bk3) | (apply s_box1; rfl; rfl; intro bk3)); (apply ol_as; rfl; rfl); (apply ol_nil))
            | (refine cw_region_id 1 ?_; (apply ol_fa; rfl; rfl; exact fd_101_0; exact qZ); (apply ol_ld; rfl; rfl; rfl; exact qP); (apply ol_nil))
            | (refine cw_region_id 2 ?_; (apply ol_val; rfl; apply stp_cmp; apply s_eql; rfl; rfl; all_goals (intro hc8; try (exfalso; (first | exact hc8 rfl | omega)))); all_goals (apply ol_as; rfl; rfl); all_goals (apply ol_nil))
            | (refine cw_region_id 4 ?_; (apply ol_val; rfl; apply stp_cmp; apply s_eql; rfl; rfl; all_goals (intro hc20; try (exfalso; (first | exact hc20 rfl | omega)))); all_goals (apply ol_as; rfl; rfl); all_goals (apply ol_nil))
            | (refine cw_region_id 6 ?_; (apply ol_val; rfl; apply stp_cmp; apply s_eql; rfl; rfl; all_goals (intro hc31; try (exfalso; (first | exact hc31 rfl | omega)))); all_goals (apply ol_as; rfl; rfl); all_goals (apply ol_nil))
            | (refine cw_region_id 7 ?_; (apply ol_fa; rfl; rfl; exact fd_101_1; exact qZ); (apply ol_ld; rfl; rfl; rfl; exact qP); (apply ol_val; rfl; apply stp_cmp; apply s_eql; rfl; rfl; all_goals (intro hc34; try (exfalso; (first | exact hc34 rfl | omega)))); all_goals (apply ol_mv; rfl; rfl); all_goals (first | (apply ol_gskip; rfl; rfl; exact qA; rfl) | (apply ol_gval; rfl; rfl; rfl; exact qA; apply stp_pur; apply s_fieldAddr'; rfl; exact fd_101_2; exact qZ)); all_goals (first | (apply ol_gskip; rfl; rfl; exact qA; rfl) | (apply ol_gval; rfl; rfl; rfl; exact qA; apply stp_pur; apply s_load1; rfl; rfl; exact qP)); all_goals (first | (apply ol_gskip; rfl; rfl; exact qA; rfl) | (apply ol_gval; rfl; rfl; rfl; exact qA; apply stp_pur; apply s_len; rfl; exact el_26)); all_goals (first | (apply ol_gskip; rfl; rfl; exact qA; rfl) | (apply ol_gval; rfl; rfl; rfl; exact qA; apply stp_cmp; apply s_eql; rfl; rfl; all_goals (intro hc39; try (exfalso; (first | exact hc39 rfl | omega))))); all_goals (apply ol_val; rfl; apply stp_pur; first | (apply s_pick_t; rfl; exact qA; rfl) | (apply s_pick_f; rfl; exact qA; rfl)); all_goals (apply ol_mv; rfl; rfl); all_goals (first | (apply ol_gskip; rfl; rfl; exact qA; rfl) | (apply ol_gval; rfl; rfl; rfl; exact qA; apply stp_pur; apply s_load1; rfl; rfl; exact qP)); all_goals (first | (apply ol_gskip; rfl; rfl; exact qA; rfl) | (apply ol_gval; rfl; rfl; rfl; exact qA; apply stp_cmp; apply s_gtr; rfl; rfl; all_goals (intro hc43; try (exfalso; (first | exact hc43 rfl | omega))))); all_goals (apply ol_val; rfl; apply stp_pur; first | (apply s_pick_t; rfl; exact qA; rfl) | (apply s_pick_f; rfl; exact qA; rfl)); all_goals (apply ol_mv; rfl; rfl); all_goals (first | (apply ol_gskip; rfl; rfl; exact qA; rfl) | (apply ol_gval; rfl; rfl; rfl; exact qA; apply stp_pur; apply s_fieldAddr'; rfl; exact fd_101_3; exact qZ)); all_goals (first | (apply ol_gskip; rfl; rfl; exact qA; rfl) | (apply ol_gval; rfl; rfl; rfl; exact qA; apply stp_pur; apply s_load1; rfl; rfl; exact qP)); all_goals (first | (apply ol_gskip; rfl; rfl; exact qA; rfl) | (apply ol_gval; rfl; rfl; rfl; exact qA; apply stp_pur; apply s_len; rfl; exact el_99)); all_goals (first | (apply ol_gskip; rfl; rfl; exact qA; rfl) | (apply ol_gval; rfl; rfl; rfl; exact qA; apply stp_cmp; apply s_leq; rfl; rfl; all_goals (intro hc49; try (exfalso; (first | exact hc49 rfl | omega))))); all_goals (apply ol_val; rfl; apply stp_pur; first | (apply s_pick_t; rfl; exact qA; rfl) | (apply s_pick_f; rfl; exact qA; rfl)); all_goals (apply ol_mv; rfl; rfl); all_goals (first | (apply ol_gskip; rfl; rfl; exact qA; rfl) | (apply ol_gval; rfl; rfl; rfl; exact qA; apply stp_pur; apply s_fieldAddr'; rfl; exact fd_101_3; exact qZ)); all_goals (first | (apply ol_gskip; rfl; rfl; exact qA; rfl) | (apply ol_gval; rfl; rfl; rfl; exact qA; apply stp_pur; apply s_load1; rfl; rfl; exact qP)); all_goals (first | (apply ol_gskip; rfl; rfl; exact qA; rfl) | (apply ol_gval; rfl; rfl; rfl; exact qA; apply stp_pur; apply s_makeFunc; rfl; rfl)); all_goals (first | (apply ol_gskip; rfl; rfl; exact qA; rfl) | (apply ol_gval; rfl; rfl; rfl; exact qA; apply s_callv; rfl; exact gf_83; (intro w' hw'; exact kc w' _ hw'.le (hw'.ok_ (by (repeat (first | exact Has.here | apply Has.there))))))); all_goals (first | (apply ol_gskip; rfl; rfl; exact qA; rfl) | (apply ol_gval; rfl; rfl; rfl; exact qA; apply stp_pur; first | (apply s_not_t; rfl; exact qA) | (apply s_not_f; rfl; exact qA) | (apply s_not; rfl))); all_goals (apply ol_val; rfl; apply stp_pur; first | (apply s_pick_t; rfl; exact qA; rfl) | (apply s_pick_f; rfl; exact qA; rfl)); all_goals (apply ol_as; rfl; rfl); all_goals (apply ol_nil))
            | (apply cw_cond_true; rfl; exact qA)
            | (apply cw_cond_false; rfl; exact qA)
            | apply cw_skip
            | apply cw_ret
            | apply cw_block
            | apply cw_exit
          all_goals (refine ends [] (RVal.tmp rfl RVal.nil) Pick.nil ?_; rfl)
        | false =>
          repeat' first
            | apply cw_seq
            | (refine cw_region_id 0 ?_; (apply ol_val; rfl; first | (apply s_boxN; rfl; intro bk2) | (apply s_box1; rfl; rfl; intro bk2)); (apply ol_val; rfl; first | (apply s_boxN; rfl; intro bk3) | (apply s_box1; rfl; rfl; intro bk3)); (apply ol_as; rfl; rfl); (apply ol_nil))
            | (refine cw_region_id 1 ?_; (apply ol_fa; rfl; rfl; exact fd_101_0; exact qZ); (apply ol_ld; rfl; rfl; rfl; exact qP); (apply ol_nil))
            | (refine cw_region_id 2 ?_; (apply ol_val; rfl; apply stp_cmp; apply s_eql; rfl; rfl; all_goals (intro hc8; try (exfalso; (first | exact hc8 rfl | omega)))); all_goals (apply ol_as; rfl; rfl); all_goals (apply ol_nil))
            | (refine cw_region_id 4 ?_; (apply ol_val; rfl; apply stp_cmp; apply s_eql; rfl; rfl; all_goals (intro hc20; try (exfalso; (first | exact hc20 rfl | omega)))); all_goals (apply ol_as; rfl; rfl); all_goals (apply ol_nil))
            | (refine cw_region_id 6 ?_; (apply ol_val; rfl; apply stp_cmp; apply s_eql; rfl; rfl; all_goals (intro hc31; try (exfalso; (first | exact hc31 rfl | omega)))); all_goals (apply ol_as; rfl; rfl); all_goals (apply ol_nil))
            | (refine cw_region_id 7 ?_; (apply ol_fa; rfl; rfl; exact fd_101_1; exact qZ); (apply ol_ld; rfl; rfl; rfl; exact qP); (apply ol_val; rfl; apply stp_cmp; apply s_eql; rfl; rfl; all_goals (intro hc34; try (exfalso; (first | exact hc34 rfl | omega)))); all_goals (apply ol_mv; rfl; rfl); all_goals (first | (apply ol_gskip; rfl; rfl; exact qA; rfl) | (apply ol_gval; rfl; rfl; rfl; exact qA; apply stp_pur; apply s_fieldAddr'; rfl; exact fd_101_2; exact qZ)); all_goals (first | (apply ol_gskip; rfl; rfl; exact qA; rfl) | (apply ol_gval; rfl; rfl; rfl; exact qA; apply stp_pur; apply s_load1; rfl; rfl; exact qP)); all_goals (first | (apply ol_gskip; rfl; rfl; exact qA; rfl) | (apply ol_gval; rfl; rfl; rfl; exact qA; apply stp_pur; apply s_len; rfl; exact el_26)); all_goals (first | (apply ol_gskip; rfl; rfl; exact qA; rfl) | (apply ol_gval; rfl; rfl; rfl; exact qA; apply stp_cmp; apply s_eql; rfl; rfl; all_goals (intro hc39; try (exfalso; (first | exact hc39 rfl | omega))))); all_goals (apply ol_val; rfl; apply stp_pur; first | (apply s_pick_t; rfl; exact qA; rfl) | (apply s_pick_f; rfl; exact qA; rfl)); all_goals (apply ol_mv; rfl; rfl); all_goals (first | (apply ol_gskip; rfl; rfl; exact qA; rfl) | (apply ol_gval; rfl; rfl; rfl; exact qA; apply stp_pur; apply s_load1; rfl; rfl; exact qP)); all_goals (first | (apply ol_gskip; rfl; rfl; exact qA; rfl) | (apply ol_gval; rfl; rfl; rfl; exact qA; apply stp_cmp; apply s_gtr; rfl; rfl; all_goals (intro hc43; try (exfalso; (first | exact hc43 rfl | omega))))); all_goals (apply ol_val; rfl; apply stp_pur; first | (apply s_pick_t; rfl; exact qA; rfl) | (apply s_pick_f; rfl; exact qA; rfl)); all_goals (apply ol_mv; rfl; rfl); all_goals (first | (apply ol_gskip; rfl; rfl; exact qA; rfl) | (apply ol_gval; rfl; rfl; rfl; exact qA; apply stp_pur; apply s_fieldAddr'; rfl; exact fd_101_3; exact qZ)); all_goals (first | (apply ol_gskip; rfl; rfl; exact qA; rfl) | (apply ol_gval; rfl; rfl; rfl; exact qA; apply stp_pur; apply s_load1; rfl; rfl; exact qP)); all_goals (first | (apply ol_gskip; rfl; rfl; exact qA; rfl) | (apply ol_gval; rfl; rfl; rfl; exact qA; apply stp_pur; apply s_len; rfl; exact el_99)); all_goals (first | (apply ol_gskip; rfl; rfl; exact qA; rfl) | (apply ol_gval; rfl; rfl; rfl; exact qA; apply stp_cmp; apply s_leq; rfl; rfl; all_goals (intro hc49; try (exfalso; (first | exact hc49 rfl | omega))))); all_goals (apply ol_val; rfl; apply stp_pur; first | (apply s_pick_t; rfl; exact qA; rfl) | (apply s_pick_f; rfl; exact qA; rfl)); all_goals (apply ol_mv; rfl; rfl); all_goals (first | (apply ol_gskip; rfl; rfl; exact qA; rfl) | (apply ol_gval; rfl; rfl; rfl; exact qA; apply stp_pur; apply s_fieldAddr'; rfl; exact fd_101_3; exact qZ)); all_goals (first | (apply ol_gskip; rfl; rfl; exact qA; rfl) | (apply ol_gval; rfl; rfl; rfl; exact qA; apply stp_pur; apply s_load1; rfl; rfl; exact qP)); all_goals (first | (apply ol_gskip; rfl; rfl; exact qA; rfl) | (apply ol_gval; rfl; rfl; rfl; exact qA; apply stp_pur; apply s_makeFunc; rfl; rfl)); all_goals (first | (apply ol_gskip; rfl; rfl; exact qA; rfl) | (apply ol_gval; rfl; rfl; rfl; exact qA; apply s_callv; rfl; exact gf_83; (intro w' hw'; exact kc w' _ hw'.le (hw'.ok_ (by (repeat (first | exact Has.here | apply Has.there))))))); all_goals (first | (apply ol_gskip; rfl; rfl; exact qA; rfl) | (apply ol_gval; rfl; rfl; rfl; exact qA; apply stp_pur; first | (apply s_not_t; rfl; exact qA) | (apply s_not_f; rfl; exact qA) | (apply s_not; rfl))); all_goals (apply ol_val; rfl; apply stp_pur; first | (apply s_pick_t; rfl; exact qA; rfl) | (apply s_pick_f; rfl; exact qA; rfl)); all_goals (apply ol_as; rfl; rfl); all_goals (apply ol_nil))
            | (apply cw_cond_true; rfl; exact qA)
            | (apply cw_cond_false; rfl; exact qA)
            | apply cw_skip
            | apply cw_ret
            | apply cw_block
            | apply cw_exit
          all_goals (refine ends [] (RVal.tmp rfl RVal.nil) Pick.nil ?_; rfl)
      · rw [decide_eq_false hc, Bool.false_and]
        repeat' first
          | apply cw_seq
          | (refine cw_region_id 0 ?_; (apply ol_val; rfl; first | (apply s_boxN; rfl; intro bk2) | (apply s_box1; rfl; rfl; intro bk2)); (apply ol_val; rfl; first | (apply s_boxN; rfl; intro bk3) | (apply s_box1; rfl; rfl; intro bk3)); (apply ol_as; rfl; rfl); (apply ol_nil))
          | (refine cw_region_id 1 ?_; (apply ol_fa; rfl; rfl; exact fd_101_0; exact qZ); (apply ol_ld; rfl; rfl; rfl; exact qP); (apply ol_nil))
          | (refine cw_region_id 2 ?_; (apply ol_val; rfl; apply stp_cmp; apply s_eql; rfl; rfl; all_goals (intro hc8; try (exfalso; (first | exact hc8 rfl | omega)))); all_goals (apply ol_as; rfl; rfl); all_goals (apply ol_nil))
          | (refine cw_region_id 4 ?_; (apply ol_val; rfl; apply stp_cmp; apply s_eql; rfl; rfl; all_goals (intro hc20; try (exfalso; (first | exact hc20 rfl | omega)))); all_goals (apply ol_as; rfl; rfl); all_goals (apply ol_nil))
          | (refine cw_region_id 6 ?_; (apply ol_val; rfl; apply stp_cmp; apply s_eql; rfl; rfl; all_goals (intro hc31; try (exfalso; (first | exact hc31 rfl | omega)))); all_goals (apply ol_as; rfl; rfl); all_goals (apply ol_nil))
          | (refine cw_region_id 7 ?_; (apply ol_fa; rfl; rfl; exact fd_101_1; exact qZ); (apply ol_ld; rfl; rfl; rfl; exact qP); (apply ol_val; rfl; apply stp_cmp; apply s_eql; rfl; rfl; all_goals (intro hc34; try (exfalso; (first | exact hc34 rfl | omega)))); all_goals (apply ol_mv; rfl; rfl); all_goals (first | (apply ol_gskip; rfl; rfl; exact qA; rfl) | (apply ol_gval; rfl; rfl; rfl; exact qA; apply stp_pur; apply s_fieldAddr'; rfl; exact fd_101_2; exact qZ)); all_goals (first | (apply ol_gskip; rfl; rfl; exact qA; rfl) | (apply ol_gval; rfl; rfl; rfl; exact qA; apply stp_pur; apply s_load1; rfl; rfl; exact qP)); all_goals (first | (apply ol_gskip; rfl; rfl; exact qA; rfl) | (apply ol_gval; rfl; rfl; rfl; exact qA; apply stp_pur; apply s_len; rfl; exact el_26)); all_goals (first | (apply ol_gskip; rfl; rfl; exact qA; rfl) | (apply ol_gval; rfl; rfl; rfl; exact qA; apply stp_cmp; apply s_eql; rfl; rfl; all_goals (intro hc39; try (exfalso; (first | exact hc39 rfl | omega))))); all_goals (apply ol_val; rfl; apply stp_pur; first | (apply s_pick_t; rfl; exact qA; rfl) | (apply s_pick_f; rfl; exact qA; rfl)); all_goals (apply ol_mv; rfl; rfl); all_goals (first | (apply ol_gskip; rfl; rfl; exact qA; rfl) | (apply ol_gval; rfl; rfl; rfl; exact qA; apply stp_pur; apply s_load1; rfl; rfl; exact qP)); all_goals (first | (apply ol_gskip; rfl; rfl; exact qA; rfl) | (apply ol_gval; rfl; rfl; rfl; exact qA; apply stp_cmp; apply s_gtr; rfl; rfl; all_goals (intro hc43; try (exfalso; (first | exact hc43 rfl | omega))))); all_goals (apply ol_val; rfl; apply stp_pur; first | (apply s_pick_t; rfl; exact qA; rfl) | (apply s_pick_f; rfl; exact qA; rfl)); all_goals (apply ol_mv; rfl; rfl); all_goals (first | (apply ol_gskip; rfl; rfl; exact qA; rfl) | (apply ol_gval; rfl; rfl; rfl; exact qA; apply stp_pur; apply s_fieldAddr'; rfl; exact fd_101_3; exact qZ)); all_goals (first | (apply ol_gskip; rfl; rfl; exact qA; rfl) | (apply ol_gval; rfl; rfl; rfl; exact qA; apply stp_pur; apply s_load1; rfl; rfl; exact qP)); all_goals (first | (apply ol_gskip; rfl; rfl; exact qA; rfl) | (apply ol_gval; rfl; rfl; rfl; exact qA; apply stp_pur; apply s_len; rfl; exact el_99)); all_goals (first | (apply ol_gskip; rfl; rfl; exact qA; rfl) | (apply ol_gval; rfl; rfl; rfl; exact qA; apply stp_cmp; apply s_leq; rfl; rfl; all_goals (intro hc49; try (exfalso; (first | exact hc49 rfl | omega))))); all_goals (apply ol_val; rfl; apply stp_pur; first | (apply s_pick_t; rfl; exact qA; rfl) | (apply s_pick_f; rfl; exact qA; rfl)); all_goals (apply ol_mv; rfl; rfl); all_goals (first | (apply ol_gskip; rfl; rfl; exact qA; rfl) | (apply ol_gval; rfl; rfl; rfl; exact qA; apply stp_pur; apply s_fieldAddr'; rfl; exact fd_101_3; exact qZ)); all_goals (first | (apply ol_gskip; rfl; rfl; exact qA; rfl) | (apply ol_gval; rfl; rfl; rfl; exact qA; apply stp_pur; apply s_load1; rfl; rfl; exact qP)); all_goals (first | (apply ol_gskip; rfl; rfl; exact qA; rfl) | (apply ol_gval; rfl; rfl; rfl; exact qA; apply stp_pur; apply s_makeFunc; rfl; rfl)); all_goals (first | (apply ol_gskip; rfl; rfl; exact qA; rfl) | (apply ol_gval; rfl; rfl; rfl; exact qA; fail)); all_goals (first | (apply ol_gskip; rfl; rfl; exact qA; rfl) | (apply ol_gval; rfl; rfl; rfl; exact qA; apply stp_pur; first | (apply s_not_t; rfl; exact qA) | (apply s_not_f; rfl; exact qA) | (apply s_not; rfl))); all_goals (apply ol_val; rfl; apply stp_pur; first | (apply s_pick_t; rfl; exact qA; rfl) | (apply s_pick_f; rfl; exact qA; rfl)); all_goals (apply ol_as; rfl; rfl); all_goals (apply ol_nil))
          | (apply cw_cond_true; rfl; exact qA)
          | (apply cw_cond_false; rfl; exact qA)
          | apply cw_skip
          | apply cw_ret
          | apply cw_block
          | apply cw_exit
        all_goals (refine ends [] (RVal.tmp rfl RVal.nil) Pick.nil ?_; rfl)
    · rw [okI_leaf (.inl h3)]
      exact within_leaf hM hx.head (.inl h3)
theorem valid_spec {M : View} {w : World} (hM : View.le M (View.of w)) {x : It 8} (hx : ItV M 8 x) :
    FnC Try.prog 75 [.agg x.enc.toArray] w (fun v _ => v = .bool (okI 8 x)) := by
  have kw := fun (w' : World) (h : View.le M (View.of w')) => within_spec 8 (Nat.le_refl _) h hx
  unfold It.enc at *
  generalize x.hd = h at *
  obtain ⟨k, n, ⟨xs, Ba, Bb, Bo, Bc⟩, La, Lb, Lo, Lc, m⟩ := h
  dsimp only at kw ⊢
  generalize okI 8 x = r at *
  refine enterF (M := M) Try.func75 rfl rfl rfl rfl hM ?_
  repeat' first
    | apply cw_seq
    | (refine cw_region_id 0 ?_; (apply ol_val; rfl; first | (apply s_boxN; rfl; intro bk1) | (apply s_box1; rfl; rfl; intro bk1)); (apply ol_as; rfl; rfl); (apply ol_nil))
    | (refine cw_region_id 1 ?_; (apply ol_ldN; rfl; rfl; rfl; exact sz_101; exact qQ); (apply ol_val; rfl; apply s_callv; rfl; exact gf_81; (intro w' hw'; exact kw w' hw'.le)); (apply ol_as; rfl; rfl); (apply ol_nil))
    | (apply cw_cond_true; rfl; exact qA)
    | (apply cw_cond_false; rfl; exact qA)
    | apply cw_skip
    | apply cw_ret
    | apply cw_block
    | apply cw_exit
  refine ends [] (RVal.tmp rfl RVal.nil) Pick.nil ?_
  rfl
end Go.Proofs.Ytagmoecojmlogaa
namespace Go.Proofs.Ytagmoecojmlogaa
set_option maxRecDepth 20000
set_option linter.unusedSimpArgs false
set_option linter.unusedVariables false
open Go Go.Fw
/-- The row in the middle of the reference's loop. -/
def bmid (s N i : Nat) : List Int := List.replicate (s - i) 0 ++ bI i N
theorem wrap8 (n : Nat) : IntKind.u8.wrap ((n : Nat) : Int) = ((n % 256 : Nat) : Int) := by rw [wrapU8]; exact (Int.natCast_emod n 256).symm
theorem shrB {N s j : Nat} (h : j < s) : ((N : Nat) : Int) / 2 ^ (8 * ((s : Int) - 1 - (j : Int))).toNat = ((N / 256 ^ (s - 1 - j) : Nat) : Int) := by
  have e : (8 * ((s : Int) - 1 - (j : Int))).toNat = 8 * (s - 1 - j) := by omega
  rw [e, ← pow8]
  simp
structure NSt where
  j : Nat
  r : Option Nat
  c : Nat
  sp : List Value
end Go.Proofs.Ytagmoecojmlogaa
namespace Go.Proofs.Ytagmoecojmlogaa
set_option maxRecDepth 20000
set_option linter.unusedSimpArgs false
set_option linter.unusedVariables false
open Go Go.Fw
attribute [local irreducible] CW OL OD FX Stp FnC FnV Ret bI bmid
set_option maxHeartbeats 800000
theorem number_step {ts : Array TypeId} {n : Nat} {wE : World} {mu : List Nat} {fm : FM} {M : View} {rest : List OB} {K : Value → View → List OB → Prop} {d : Option Nat} {ty : TypeId} {pos : String} {af : Array Edge} {g : Option (Nat × Bool)} {x y z : Operand} {r : Option Nat} {A : Option Addr} {cap m N size : Nat} {xs : List Int} {sp : List Value}
    (hx : ev fm x = some (.slice (base r A) m cap)) (hy : ev fm y = some (.int .u64 N)) (hz : ev fm z = some (.int .i64 size)) (so : SO r m cap (flat (eK .u8) xs) sp 1) (hm : m ≤ 1073741824) (hs : size ≤ 8)
    (hK : ∀ r' sp' cap', SO r' (m + size) cap' (flat (eK .u8) (xs ++ bI size N)) sp' 1 → K (.slice (base r' A) (m + size) cap') M (⟨r', flat (eK .u8) (xs ++ bI size N) ++ sp', 5⟩ :: rest)) :
    Stp ⟨Try.prog, n, wE, mu⟩ ⟨d, .call { callee := .value (.func 82), args := #[x, y, z], argTypes := ts }, ty, pos, af, g⟩ fm M (⟨r, flat (eK .u8) xs ++ sp, 5⟩ :: rest) K := by
  refine s_inline (xs := [x, y, z]) (vs := [.slice (base r A) m cap, .int .u64 N, .int .i64 size]) (by simp [evs, hx, hy, hz]) (by kernel_rfl) Try.func82 rfl rfl rfl rfl ?_
  repeat' first
    | apply cw_seq
    | (refine cw_region_id 0 ?_; (apply ol_as; rfl; rfl); (apply ol_nil))
    | (refine cw_region_id 1 ?_; (apply ol_mv; rfl; rfl); (apply ol_val; rfl; apply stp_pur; apply s_sub64; rfl; rfl; omega); (apply ol_as; rfl; rfl); (apply ol_nil))
    | (apply cw_cond_true; rfl; exact qA)
    | (apply cw_cond_false; rfl; exact qA)
    | apply cw_skip
    | apply cw_ret
    | apply cw_block
    | apply cw_exit
  refine cw_loopK (σ := NSt) [1] (by (repeat (first | exact Keep.nil | (apply Keep.cons; rfl)))) (fun s => [(0, .slice (base s.r A) (m + s.j) s.c), (7, .int .i64 ((size : Int) - 1 - (s.j : Int)))]) (fun _ => M) (fun s => ⟨s.r, flat (eK .u8) (xs ++ (bI size N).take s.j) ++ s.sp, 5⟩ :: rest) (fun s => s.j ≤ size ∧ SO s.r (m + s.j) s.c (flat (eK .u8) (xs ++ (bI size N).take s.j)) s.sp 1) (fun s => size - s.j) ⟨0, r, cap, sp⟩ (by dsimp only; rw [show (size : Int) - 1 - ((0 : Nat) : Int) = (size : Int) - 1 by omega]; (repeat (first | exact trivial | refine And.intro rfl ?_))) (View.le.refl _) (by dsimp only; rw [List.take_zero, List.append_nil]; exact qK) ⟨Nat.zero_le _, by dsimp only; rw [List.take_zero, List.append_nil]; exact so⟩ ?_
  rintro ⟨j, r1, c1, sp1⟩ ⟨hj, so1⟩
  dsimp only at hj so1
  dsimp only
  by_cases hjs : j < size
  · have htk := bI_take (N := N) hjs
    have hfl : flat (eK .u8) (xs ++ (bI size N).take (j + 1)) = flat (eK .u8) (xs ++ (bI size N).take j) ++ [.int .u8 ((N / 256 ^ (size - 1 - j) % 256 : Nat) : Int)] := by rw [htk, ← List.append_assoc, flat_append, flat_one]
    have hsr := shrB (N := N) hjs
    have hw := wrap8 (N / 256 ^ (size - 1 - j))
    generalize N / 256 ^ (size - 1 - j) = q at *
    generalize xs ++ (bI size N).take j = Y at *
    repeat' first
      | apply cw_seq
      | (refine cw_region_id 2 ?_; (apply ol_mv; rfl; rfl); (apply ol_val; rfl; apply stp_cmp; apply s_geq; rfl; rfl; all_goals (intro hc11; try (exfalso; (first | exact hc11 rfl | omega)))); all_goals (apply ol_nil))
      | (refine cw_region_id 4 ?_; (apply ol_mv; rfl; rfl); (apply ol_mv; rfl; rfl); (apply ol_mv; rfl; rfl); (apply ol_val; rfl; apply stp_pur; apply s_mul64; rfl; rfl; omega); (apply ol_val; rfl; apply stp_pur; apply s_shrE; rfl; rfl; (first | decide | omega | (simp [IntKind.bits]; omega) | (simp [IntKind.bits]; done)); exact hsr); (apply ol_val; rfl; apply stp_pur; first | (apply s_conv; rfl; rfl; exact ti_5; (focus (apply wrap_u8; omega))) | (apply s_conv; rfl; rfl; exact ti_5; exact hw) | (apply s_conv; rfl; rfl; exact ti_5; rfl)); (apply ol_val; rfl; apply s_buildSl; rfl; exact el_26; exact sz_5; exact zb_5; exact qN; rfl; rfl; (exact Nat.le_of_ble_eq_true rfl); exact qN; exact qR; intro bk20); (apply ol_val; rfl; first | (apply s_append_e; rfl; rfl; exact qN; exact el_26; exact sz_5; exact zb_5; rfl; exact by_5; (first | exact (fun _ => rfl)); (first | exact qQ); (first | rfl); exact qO; exact qO; intro rk21 sk21 ck21 ok21) | (apply s_append_r; rfl; rfl; exact qN; (first | rfl | exact (List.append_nil _).symm); exact el_26; exact sz_5; exact zb_5; rfl; exact by_5; (first | exact SO.nil _ | assumption | (exact ⟨by simp, by simp, Nat.le_refl _, by simp⟩)); (first | exact (fun _ => rfl)); (first | exact qQ); (first | rfl); exact qO; exact qO; intro rk21 sk21 ck21 ok21) | (apply s_append_b; rfl; rfl; exact qN; (first | rfl | exact (List.append_nil _).symm); exact el_26; exact sz_5; exact zb_5; rfl; exact by_5; (first | exact SO.nil _ | assumption | (exact ⟨by simp, by simp, Nat.le_refl _, by simp⟩)); (first | exact (fun _ => rfl)); (first | exact qQ); (first | rfl); exact qO; exact qO; intro rk21 sk21 ck21 ok21) | (apply s_append_n; rfl; rfl; exact qN; exact el_26; exact sz_5; exact zb_5; rfl; exact by_5; (first | exact (fun _ => rfl)); (first | exact qQ); (first | rfl); exact qO; exact qO; intro rk21 sk21 ck21 ok21)); (apply ol_as; rfl; rfl); (apply ol_nil))
      | (refine cw_region_id 3 ?_; (apply ol_mv; rfl; rfl); (apply ol_val; rfl; apply stp_pur; apply s_sub64; rfl; rfl; omega); (apply ol_as; rfl; rfl); (apply ol_nil))
      | (refine cw_region_id 5 ?_; (apply ol_mv; rfl; rfl); (apply ol_as; rfl; rfl); (apply ol_nil))
      | (apply cw_cond_true; rfl; exact qA)
      | (apply cw_cond_false; rfl; exact qA)
      | apply cw_skip
      | apply cw_ret
      | apply cw_block
      | apply cw_exit
    refine ⟨⟨j + 1, rk21, ck21, sk21⟩, ⟨?_, View.le.refl _, ?_, ⟨hjs, ?_⟩, by dsimp only; omega⟩⟩
    · dsimp only
      rw [show (size : Int) - 1 - ((j + 1 : Nat) : Int) = (size : Int) - 1 - (j : Int) - 1 by omega]
      (repeat (first | exact trivial | refine And.intro rfl ?_))
    · dsimp only
      rw [hfl]
      exact qK
    · dsimp only
      rw [hfl]
      exact ok21
  · obtain rfl : j = size := by omega
    have htk : (bI j N).take j = bI j N := List.take_of_length_le (by rw [bI_length]; exact Nat.le_refl _)
    rw [htk] at so1 ⊢
    repeat' first
      | apply cw_seq
      | (refine cw_region_id 2 ?_; (apply ol_mv; rfl; rfl); (apply ol_val; rfl; apply stp_cmp; apply s_geq; rfl; rfl; all_goals (intro hc11; try (exfalso; (first | exact hc11 rfl | omega)))); all_goals (apply ol_nil))
      | (refine cw_region_id 4 ?_; (apply ol_mv; rfl; rfl); (apply ol_mv; rfl; rfl); (apply ol_mv; rfl; rfl); (apply ol_val; rfl; apply stp_pur; apply s_mul64; rfl; rfl; omega); (apply ol_val; rfl; apply stp_pur; apply s_shr; rfl; rfl; (first | decide | omega | (simp [IntKind.bits]; omega) | (simp [IntKind.bits]; done))); (apply ol_val; rfl; apply stp_pur; first | (apply s_conv; rfl; rfl; exact ti_5; (focus (apply wrap_u8; omega))) | (apply s_conv; rfl; rfl; exact ti_5; rfl)); (apply ol_val; rfl; apply s_buildSl; rfl; exact el_26; exact sz_5; exact zb_5; exact qN; rfl; rfl; (exact Nat.le_of_ble_eq_true rfl); exact qN; exact qR; intro bk20); (apply ol_val; rfl; first | (apply s_append_e; rfl; rfl; exact qN; exact el_26; exact sz_5; exact zb_5; rfl; exact by_5; (first | exact (fun _ => rfl)); (first | exact qQ); (first | rfl); exact qO; exact qO; intro rk21 sk21 ck21 ok21) | (apply s_append_r; rfl; rfl; exact qN; (first | rfl | exact (List.append_nil _).symm); exact el_26; exact sz_5; exact zb_5; rfl; exact by_5; (first | exact SO.nil _ | assumption | (exact ⟨by simp, by simp, Nat.le_refl _, by simp⟩)); (first | exact (fun _ => rfl)); (first | exact qQ); (first | rfl); exact qO; exact qO; intro rk21 sk21 ck21 ok21) | (apply s_append_b; rfl; rfl; exact qN; (first | rfl | exact (List.append_nil _).symm); exact el_26; exact sz_5; exact zb_5; rfl; exact by_5; (first | exact SO.nil _ | assumption | (exact ⟨by simp, by simp, Nat.le_refl _, by simp⟩)); (first | exact (fun _ => rfl)); (first | exact qQ); (first | rfl); exact qO; exact qO; intro rk21 sk21 ck21 ok21) | (apply s_append_n; rfl; rfl; exact qN; exact el_26; exact sz_5; exact zb_5; rfl; exact by_5; (first | exact (fun _ => rfl)); (first | exact qQ); (first | rfl); exact qO; exact qO; intro rk21 sk21 ck21 ok21)); (apply ol_as; rfl; rfl); (apply ol_nil))
      | (refine cw_region_id 3 ?_; (apply ol_mv; rfl; rfl); (apply ol_val; rfl; apply stp_pur; apply s_sub64; rfl; rfl; omega); (apply ol_as; rfl; rfl); (apply ol_nil))
      | (refine cw_region_id 5 ?_; (apply ol_mv; rfl; rfl); (apply ol_as; rfl; rfl); (apply ol_nil))
      | (apply cw_cond_true; rfl; exact qA)
      | (apply cw_cond_false; rfl; exact qA)
      | apply cw_skip
      | apply cw_ret
      | apply cw_block
      | apply cw_exit
    exact endIS (RVal.tmp rfl RVal.nil) (List.Sublist.refl _) (hK r1 sp1 c1 so1)
end Go.Proofs.Ytagmoecojmlogaa
namespace Go.Proofs.Ytagmoecojmlogaa
set_option maxRecDepth 20000
set_option linter.unusedSimpArgs false
set_option linter.unusedVariables false
open Go Go.Fw
theorem _root_.Go.Fw.St.sep_ {wE : World} {mu : List Nat} {M : View} {own : List OB} {w : World} (hs : St wE mu M own w) {x : OB} (h : Has own x) : ∀ b, x.ref = some b → M b = none := fun b hb => (hs.sep _ h.mem b hb).1
theorem encI_leaf {d : Nat} {x : It d} (h3 : x.hd.k ≠ 3 ∨ d = 0) : encI d x = encH x.hd := by
  cases d with
  | zero => rfl
  | succ d =>
    have h : ¬ x.1.k = 3 := by rcases h3 with h | h; exact h; omega
    show (if x.1.k = 3 then _ else encH x.1) = _
    rw [if_neg h]
    rfl
/-- What is written behind some bytes: all, or too much. -/
def wrP (out e o : List Int) : Prop := (out.length + e.length ≤ 16384 → o = out ++ e) ∧ (16384 < out.length + e.length → 16384 < o.length)
theorem wrP.trans {a e1 b e2 c : List Int} (h : wrP a e1 b) (k : wrP b e2 c) : wrP a (e1 ++ e2) c := by
  refine ⟨fun hl => ?_, fun hl => ?_⟩
  · rw [List.length_append] at hl
    have hb := h.1 (by omega)
    subst hb
    rw [k.1 (by rw [List.length_append]; omega), List.append_assoc]
  · rw [List.length_append] at hl
    by_cases h1 : a.length + e1.length ≤ 16384
    · have hb := h.1 h1
      subst hb
      exact k.2 (by rw [List.length_append]; omega)
    · have := h.2 (by omega)
      exact k.2 (by omega)
theorem wrP.all (a e : List Int) : wrP a e (a ++ e) := ⟨fun _ => rfl, fun h => by rw [List.length_append]; exact h⟩
theorem wrP.long {a e : List Int} (h : 16384 < a.length) : wrP a e a := ⟨fun h2 => by omega, fun _ => h⟩
/-- The row that is handed back. -/
def WRA (A : Option Addr) (out e : List Int) (v : Value) (y : OB) : Prop :=
  ∃ r' cap' sp' o', wrP out e o' ∧ o'.length ≤ 2147483648 ∧ v = .slice (base r' A) o'.length cap' ∧ y = ⟨r', flat (eK .u8) o' ++ sp', 5⟩ ∧ SO r' o'.length cap' (flat (eK .u8) o') sp' 1
theorem encH_1 {h : Hd} (e : h.k = 1) : encH h = [1] ++ bI 8 (u64 h.n) := by unfold encH; rw [if_pos e]; rfl
theorem encH_2 {h : Hd} (e : h.k = 2) : encH h = ([2] ++ bI 4 h.B.xs.length) ++ h.B.xs := by unfold encH; rw [if_neg (by omega)]; rfl
end Go.Proofs.Ytagmoecojmlogaa
namespace Go.Proofs.Ytagmoecojmlogaa
set_option maxRecDepth 20000
set_option linter.unusedSimpArgs false
set_option linter.unusedVariables false
open Go Go.Fw
attribute [local irreducible] CW OL OD FX Stp FnC FnV FnA Ret bI bmid
set_option maxHeartbeats 1600000
theorem write_long {M : View} {w : World} (hM : View.le M (View.of w)) {d : Nat} {x : It d} {r : Option Nat} {A : Option Addr} {cap n : Nat} {out : List Int} {sp : List Value} (hr : ∀ b, r = some b → M b = none) (ho : OB.ok ⟨r, flat (eK .u8) out ++ sp, 5⟩ w) (so : SO r n cap (flat (eK .u8) out) sp 1) (hn : out.length = n) (hn2 : n ≤ 2147483648) (hl : 16384 < n) (e : List Int) :
    FnA Try.prog 76 [.slice (base r A) n cap, .agg x.enc.toArray] w ⟨r, flat (eK .u8) out ++ sp, 5⟩ (WRA A out e) := by
  unfold It.enc
  generalize x.hd = h at *
  obtain ⟨k, nn, ⟨xs, Ba, Bb, Bo, Bc⟩, La, Lb, Lo, Lc, m⟩ := h
  dsimp only
  refine enterA (M := M) Try.func76 rfl rfl rfl rfl hM ho hr ?_
  repeat' first
    | apply cw_seq
    | (refine cw_region_id 0 ?_; (apply ol_val; rfl; first | (apply s_boxN; rfl; intro bk3) | (apply s_box1; rfl; rfl; intro bk3)); (apply ol_as; rfl; rfl); (apply ol_nil))
    | (refine cw_region_id 1 ?_; (apply ol_mv; rfl; rfl); (apply ol_val; rfl; apply stp_pur; apply s_len; rfl; exact el_26); (apply ol_val; rfl; apply stp_cmp; apply s_gtr; rfl; rfl; all_goals (intro hc9; try (exfalso; (first | exact hc9 rfl | omega)))); all_goals (apply ol_nil))
    | (refine cw_region_id 2 ?_; (apply ol_mv; rfl; rfl); (apply ol_as; rfl; rfl); (apply ol_nil))
    | (apply cw_cond_true; rfl; exact qA)
    | (apply cw_cond_false; rfl; exact qA)
    | apply cw_skip
    | apply cw_ret
    | apply cw_block
    | apply cw_exit
  refine endsA ⟨r, flat (eK .u8) out ++ sp, 5⟩ (RVal.tmp rfl RVal.nil) (by exact qK) ?_
  exact ⟨r, cap, sp, out, wrP.long (by omega), by omega, by rw [hn]; rfl, rfl, by rw [hn]; exact so⟩
theorem write_leaf {M : View} {w : World} (hM : View.le M (View.of w)) {d : Nat} {x : It d} (hv : HdV M x.hd) (hk : okH x.hd = true) {r : Option Nat} {A : Option Addr} {cap n : Nat} {out : List Int} {sp : List Value} (hr : ∀ b, r = some b → M b = none) (ho : OB.ok ⟨r, flat (eK .u8) out ++ sp, 5⟩ w) (so : SO r n cap (flat (eK .u8) out) sp 1) (hn : out.length = n) (hn2 : n ≤ 16384) :
    FnA Try.prog 76 [.slice (base r A) n cap, .agg x.enc.toArray] w ⟨r, flat (eK .u8) out ++ sp, 5⟩ (WRA A out (encH x.hd)) := by
  have hkk : x.hd.k = 1 ∨ x.hd.k = 2 := by unfold okH at hk; simp at hk; rcases hk with h | h <;> simp [h.1]
  have e1 := encH_1 (h := x.hd)
  have e2 := encH_2 (h := x.hd)
  unfold It.enc
  generalize x.hd = h at *
  obtain ⟨k, nn, ⟨xs, Ba, Bb, Bo, Bc⟩, La, Lb, Lo, Lc, m⟩ := h
  dsimp only at hkk e1 e2 ⊢
  obtain ⟨hvB, hvb, hvl, _⟩ := hv
  dsimp only at hvB hvb hvl
  refine enterA (M := M) Try.func76 rfl rfl rfl rfl hM ho hr ?_
  rcases hkk with rfl | rfl
  · rw [e1 rfl]
    have hu := (u64_cast nn).symm
    have hf1 : flat (eK .u8) (out ++ [1]) = flat (eK .u8) out ++ [.int .u8 1] := by rw [flat_append, flat_one]
    have hl1 : (out ++ [1]).length = n + 1 := by rw [List.length_append, hn]; rfl
    have hl2 : (out ++ [1] ++ bI 8 (u64 nn)).length = n + 1 + 8 := by rw [List.length_append, hl1, bI_length]
    repeat' first
      | apply cw_seq
      | (refine cw_region_id 0 ?_; (apply ol_val; rfl; first | (apply s_boxN; rfl; intro bk3) | (apply s_box1; rfl; rfl; intro bk3)); (apply ol_as; rfl; rfl); (apply ol_nil))
      | (refine cw_region_id 1 ?_; (apply ol_mv; rfl; rfl); (apply ol_val; rfl; apply stp_pur; apply s_len; rfl; exact el_26); (apply ol_val; rfl; apply stp_cmp; apply s_gtr; rfl; rfl; all_goals (intro hc9; try (exfalso; (first | exact hc9 rfl | omega)))); all_goals (apply ol_nil))
      | (refine cw_region_id 3 ?_; (apply ol_mv; rfl; rfl); (apply ol_fa; rfl; rfl; exact fd_101_0; exact qZ); (apply ol_ld; rfl; rfl; rfl; exact qP); (apply ol_val; rfl; apply stp_pur; first | (apply s_conv; rfl; rfl; exact ti_5; (focus (apply wrap_u8; omega))) | (apply s_conv; rfl; rfl; exact ti_5; rfl)); (apply ol_val; rfl; apply s_buildSl; rfl; exact el_26; exact sz_5; exact zb_5; exact qN; rfl; rfl; (exact Nat.le_of_ble_eq_true rfl); exact qN; exact qR; intro bk15); (apply ol_val; rfl; first | (apply s_append_e; rfl; rfl; exact qN; exact el_26; exact sz_5; exact zb_5; rfl; exact by_5; (first | exact (fun _ => rfl)); (first | exact qQ); (first | rfl); exact qO; exact qO; intro rk16 sk16 ck16 ok16) | (apply s_append_r; rfl; rfl; exact qN; (first | rfl | exact (List.append_nil _).symm); exact el_26; exact sz_5; exact zb_5; rfl; exact by_5; (first | exact SO.nil _ | assumption | (exact ⟨by simp, by simp, Nat.le_refl _, by simp⟩)); (first | exact (fun _ => rfl)); (first | exact qQ); (first | rfl); exact qO; exact qO; intro rk16 sk16 ck16 ok16) | (apply s_append_b; rfl; rfl; exact qN; (first | rfl | exact (List.append_nil _).symm); exact el_26; exact sz_5; exact zb_5; rfl; exact by_5; (first | exact SO.nil _ | assumption | (exact ⟨by simp, by simp, Nat.le_refl _, by simp⟩)); (first | exact (fun _ => rfl)); (first | exact qQ); (first | rfl); exact qO; exact qO; intro rk16 sk16 ck16 ok16) | (apply s_append_n; rfl; rfl; exact qN; exact el_26; exact sz_5; exact zb_5; rfl; exact by_5; (first | exact (fun _ => rfl)); (first | exact qQ); (first | rfl); exact qO; exact qO; intro rk16 sk16 ck16 ok16)); (apply ol_as; rfl; rfl); (apply ol_nil))
      | (refine cw_region_id 4 ?_; (apply ol_fa; rfl; rfl; exact fd_101_0; exact qZ); (apply ol_ld; rfl; rfl; rfl; exact qP); (apply ol_nil))
      | (apply cw_cond_true; rfl; exact qA)
      | (apply cw_cond_false; rfl; exact qA)
      | apply cw_skip
      | apply cw_ret
      | apply cw_exit
    rw [← hf1] at ok16
    refine cw_pick (own' := [⟨rk16, flat (eK .u8) (out ++ [1]) ++ sk16, 5⟩, ⟨some bk3, [.int .i64 1, .int .i64 nn, .slice Ba xs.length Bc, .slice La m Lc], 101⟩]) (by rw [hf1]; exact qK) ?_
    repeat' first
      | apply cw_seq
      | (refine cw_region_id 5 ?_; (apply ol_val; rfl; apply stp_cmp; apply s_eql; rfl; rfl; all_goals (intro hc20; try (exfalso; (first | exact hc20 rfl | omega)))); all_goals (apply ol_as; rfl; rfl); all_goals (apply ol_nil))
      | (refine cw_region_id 6 ?_; (apply ol_mv; rfl; rfl); (apply ol_fa; rfl; rfl; exact fd_101_1; exact qZ); (apply ol_ld; rfl; rfl; rfl; exact qP); (apply ol_val; rfl; apply stp_pur; first | (apply s_conv; rfl; rfl; exact ti_114; (focus (apply wrap_u64; omega))) | (apply s_conv; rfl; rfl; exact ti_114; exact hu) | (apply s_conv; rfl; rfl; exact ti_114; rfl)); (apply ol_val; rfl; (apply number_step (size := 8); rfl; rfl; rfl; exact ok16; omega; omega; intro r2 sp2 cap2 so2)); all_goals (apply ol_as; rfl; rfl); all_goals (apply ol_nil))
      | (apply cw_cond_true; rfl; exact qA)
      | (apply cw_cond_false; rfl; exact qA)
      | apply cw_skip
      | apply cw_ret
      | apply cw_block
      | apply cw_exit
    refine endsA ⟨r2, flat (eK .u8) (out ++ [1] ++ bI 8 (u64 nn)) ++ sp2, 5⟩ (RVal.tmp rfl RVal.nil) (by exact qK) ?_
    refine ⟨r2, cap2, sp2, out ++ [1] ++ bI 8 (u64 nn), by rw [List.append_assoc]; exact wrP.all _ _, by omega, by rw [hl2]; rfl, rfl, by rw [hl2]; exact so2⟩
  · rw [e2 rfl]
    have hu := (u64_cast (xs.length : Int)).symm
    rw [u64_nat (by omega)] at hu
    have hf1 : flat (eK .u8) (out ++ [2]) = flat (eK .u8) out ++ [.int .u8 2] := by rw [flat_append, flat_one]
    have hl1 : (out ++ [2]).length = n + 1 := by rw [List.length_append, hn]; rfl
    have hl2 : (out ++ [2] ++ bI 4 xs.length ++ xs).length = n + 1 + 4 + xs.length := by rw [List.length_append, List.length_append, hl1, bI_length]
    have hf2 : flat (eK .u8) (out ++ [2] ++ bI 4 xs.length ++ xs) = flat (eK .u8) (out ++ [2] ++ bI 4 xs.length) ++ flat (eK .u8) xs := flat_append _ _ _
    have hall := SlA.all (eK_length .u8) hvB
    repeat' first
      | apply cw_seq
      | (refine cw_region_id 0 ?_; (apply ol_val; rfl; first | (apply s_boxN; rfl; intro bk3) | (apply s_box1; rfl; rfl; intro bk3)); (apply ol_as; rfl; rfl); (apply ol_nil))
      | (refine cw_region_id 1 ?_; (apply ol_mv; rfl; rfl); (apply ol_val; rfl; apply stp_pur; apply s_len; rfl; exact el_26); (apply ol_val; rfl; apply stp_cmp; apply s_gtr; rfl; rfl; all_goals (intro hc9; try (exfalso; (first | exact hc9 rfl | omega)))); all_goals (apply ol_nil))
      | (refine cw_region_id 3 ?_; (apply ol_mv; rfl; rfl); (apply ol_fa; rfl; rfl; exact fd_101_0; exact qZ); (apply ol_ld; rfl; rfl; rfl; exact qP); (apply ol_val; rfl; apply stp_pur; first | (apply s_conv; rfl; rfl; exact ti_5; (focus (apply wrap_u8; omega))) | (apply s_conv; rfl; rfl; exact ti_5; rfl)); (apply ol_val; rfl; apply s_buildSl; rfl; exact el_26; exact sz_5; exact zb_5; exact qN; rfl; rfl; (exact Nat.le_of_ble_eq_true rfl); exact qN; exact qR; intro bk15); (apply ol_val; rfl; first | (apply s_append_e; rfl; rfl; exact qN; exact el_26; exact sz_5; exact zb_5; rfl; exact by_5; (first | exact (fun _ => rfl)); (first | exact qQ); (first | rfl); exact qO; exact qO; intro rk16 sk16 ck16 ok16) | (apply s_append_r; rfl; rfl; exact qN; (first | rfl | exact (List.append_nil _).symm); exact el_26; exact sz_5; exact zb_5; rfl; exact by_5; (first | exact SO.nil _ | assumption | (exact ⟨by simp, by simp, Nat.le_refl _, by simp⟩)); (first | exact (fun _ => rfl)); (first | exact qQ); (first | rfl); exact qO; exact qO; intro rk16 sk16 ck16 ok16) | (apply s_append_b; rfl; rfl; exact qN; (first | rfl | exact (List.append_nil _).symm); exact el_26; exact sz_5; exact zb_5; rfl; exact by_5; (first | exact SO.nil _ | assumption | (exact ⟨by simp, by simp, Nat.le_refl _, by simp⟩)); (first | exact (fun _ => rfl)); (first | exact qQ); (first | rfl); exact qO; exact qO; intro rk16 sk16 ck16 ok16) | (apply s_append_n; rfl; rfl; exact qN; exact el_26; exact sz_5; exact zb_5; rfl; exact by_5; (first | exact (fun _ => rfl)); (first | exact qQ); (first | rfl); exact qO; exact qO; intro rk16 sk16 ck16 ok16)); (apply ol_as; rfl; rfl); (apply ol_nil))
      | (refine cw_region_id 4 ?_; (apply ol_fa; rfl; rfl; exact fd_101_0; exact qZ); (apply ol_ld; rfl; rfl; rfl; exact qP); (apply ol_nil))
      | (apply cw_cond_true; rfl; exact qA)
      | (apply cw_cond_false; rfl; exact qA)
      | apply cw_skip
      | apply cw_ret
      | apply cw_exit
    rw [← hf1] at ok16
    refine cw_pick (own' := [⟨rk16, flat (eK .u8) (out ++ [2]) ++ sk16, 5⟩, ⟨some bk3, [.int .i64 2, .int .i64 nn, .slice Ba xs.length Bc, .slice La m Lc], 101⟩]) (by rw [hf1]; exact qK) ?_
    repeat' first
      | apply cw_seq
      | (refine cw_region_id 5 ?_; (apply ol_val; rfl; apply stp_cmp; apply s_eql; rfl; rfl; all_goals (intro hc20; try (exfalso; (first | exact hc20 rfl | omega)))); all_goals (apply ol_as; rfl; rfl); all_goals (apply ol_nil))
      | (refine cw_region_id 7 ?_; (apply ol_val; rfl; apply stp_cmp; apply s_eql; rfl; rfl; all_goals (intro hc27; try (exfalso; (first | exact hc27 rfl | omega)))); all_goals (apply ol_as; rfl; rfl); all_goals (apply ol_nil))
      | (refine cw_draw (id := 8) 8 (.mv 0 (.mv 1 (.mv 2 (.mv 3 (.mv 4 (.mv 6 (.mv 7 (.fx 5 (PT.nil))))))))) mixed (by kernel_rfl) ?_; (apply od_mv; rfl; rfl; apply s_move; rfl); (apply od_mv; rfl; rfl; apply s_fieldAddr'; rfl; exact fd_101_2; exact qZ); (apply od_mv; rfl; rfl; apply s_load1; rfl; rfl; exact qP); (apply od_mv; rfl; rfl; apply s_len; rfl; exact el_26); (apply od_mv; rfl; rfl; first | (apply s_conv; rfl; rfl; exact ti_114; (focus (apply wrap_u64; omega))) | (apply s_conv; rfl; rfl; exact ti_114; exact hu) | (apply s_conv; rfl; rfl; exact ti_114; rfl)); (apply od_mv; rfl; rfl; apply s_fieldAddr'; rfl; exact fd_101_2; exact qZ); (apply od_mv; rfl; rfl; apply s_load1; rfl; rfl; exact qP); (apply od_fx; (first | exact Wk.refl _ _ | exact qW); (apply fx_val; rfl; rfl; (apply number_step (size := 4); rfl; rfl; rfl; exact ok16; omega; omega; intro r2 sp2 cap2 so2))); all_goals (apply od_nil; (first | exact Wk.refl _ _ | exact qW)); all_goals (apply ol_val; rfl; first | (apply s_append_e; rfl; rfl; exact qN; exact el_26; exact sz_5; exact zb_5; rfl; exact by_5; (first | exact (fun _ => rfl) | (intro _; exact hvB.at_ (by omega))); (first | exact qQ | (apply RdN.view; exact hall)); (first | rfl | exact flatK_ones); exact qO; exact qO; intro rk36 sk36 ck36 ok36) | (apply s_append_r; rfl; rfl; exact qN; (first | rfl | exact (List.append_nil _).symm); exact el_26; exact sz_5; exact zb_5; rfl; exact by_5; (first | exact SO.nil _ | assumption | exact so2 | (exact ⟨by simp, by simp, Nat.le_refl _, by simp⟩)); (first | exact (fun _ => rfl) | (intro _; exact hvB.at_ (by omega))); (first | exact qQ | (apply RdN.view; exact hall)); (first | rfl | exact flatK_ones); exact qO; exact qO; intro rk36 sk36 ck36 ok36) | (apply s_append_b; rfl; rfl; exact qN; (first | rfl | exact (List.append_nil _).symm); exact el_26; exact sz_5; exact zb_5; rfl; exact by_5; (first | exact SO.nil _ | assumption | exact so2 | (exact ⟨by simp, by simp, Nat.le_refl _, by simp⟩)); (first | exact (fun _ => rfl) | (intro _; exact hvB.at_ (by omega))); (first | exact qQ | (apply RdN.view; exact hall)); (first | rfl | exact flatK_ones); exact qO; exact qO; intro rk36 sk36 ck36 ok36) | (apply s_append_n; rfl; rfl; exact qN; exact el_26; exact sz_5; exact zb_5; rfl; exact by_5; (first | exact (fun _ => rfl) | (intro _; exact hvB.at_ (by omega))); (first | exact qQ | (apply RdN.view; exact hall)); (first | rfl | exact flatK_ones); exact qO; exact qO; intro rk36 sk36 ck36 ok36)); all_goals (apply ol_as; rfl; rfl); all_goals (apply ol_nil))
      | (refine cw_drawW (id := 8) (own0 := [⟨some bk3, [.int .i64 2, .int .i64 nn, .slice Ba xs.length Bc, .slice La m Lc], 101⟩]) 8 (.mv 0 (.mv 1 (.mv 2 (.mv 3 (.mv 4 (.mv 6 (.mv 7 (.fx 5 (PT.nil))))))))) mixed (by kernel_rfl) (by (first | exact Wk.refl _ _ | exact qW)) ?_; (apply od_mv; rfl; rfl; apply s_move; rfl); (apply od_mv; rfl; rfl; apply s_fieldAddr'; rfl; exact fd_101_2; exact qZ); (apply od_mv; rfl; rfl; apply s_load1; rfl; rfl; exact qP); (apply od_mv; rfl; rfl; apply s_len; rfl; exact el_26); (apply od_mv; rfl; rfl; first | (apply s_conv; rfl; rfl; exact ti_114; (focus (apply wrap_u64; omega))) | (apply s_conv; rfl; rfl; exact ti_114; exact hu) | (apply s_conv; rfl; rfl; exact ti_114; rfl)); (apply od_mv; rfl; rfl; apply s_fieldAddr'; rfl; exact fd_101_2; exact qZ); (apply od_mv; rfl; rfl; apply s_load1; rfl; rfl; exact qP); (apply od_fx; (first | exact Wk.refl _ _ | exact qW); (apply fx_val; rfl; rfl; (apply number_step (size := 4); rfl; rfl; rfl; exact ok16; omega; omega; intro r2 sp2 cap2 so2))); all_goals (apply od_nil; (first | exact Wk.refl _ _ | exact qW)); all_goals (apply ol_val; rfl; first | (apply s_append_e; rfl; rfl; exact qN; exact el_26; exact sz_5; exact zb_5; rfl; exact by_5; (first | exact (fun _ => rfl) | (intro _; exact hvB.at_ (by omega))); (first | exact qQ | (apply RdN.view; exact hall)); (first | rfl | exact flatK_ones); exact qO; exact qO; intro rk36 sk36 ck36 ok36) | (apply s_append_r; rfl; rfl; exact qN; (first | rfl | exact (List.append_nil _).symm); exact el_26; exact sz_5; exact zb_5; rfl; exact by_5; (first | exact SO.nil _ | assumption | exact so2 | (exact ⟨by simp, by simp, Nat.le_refl _, by simp⟩)); (first | exact (fun _ => rfl) | (intro _; exact hvB.at_ (by omega))); (first | exact qQ | (apply RdN.view; exact hall)); (first | rfl | exact flatK_ones); exact qO; exact qO; intro rk36 sk36 ck36 ok36) | (apply s_append_b; rfl; rfl; exact qN; (first | rfl | exact (List.append_nil _).symm); exact el_26; exact sz_5; exact zb_5; rfl; exact by_5; (first | exact SO.nil _ | assumption | exact so2 | (exact ⟨by simp, by simp, Nat.le_refl _, by simp⟩)); (first | exact (fun _ => rfl) | (intro _; exact hvB.at_ (by omega))); (first | exact qQ | (apply RdN.view; exact hall)); (first | rfl | exact flatK_ones); exact qO; exact qO; intro rk36 sk36 ck36 ok36) | (apply s_append_n; rfl; rfl; exact qN; exact el_26; exact sz_5; exact zb_5; rfl; exact by_5; (first | exact (fun _ => rfl) | (intro _; exact hvB.at_ (by omega))); (first | exact qQ | (apply RdN.view; exact hall)); (first | rfl | exact flatK_ones); exact qO; exact qO; intro rk36 sk36 ck36 ok36)); all_goals (apply ol_as; rfl; rfl); all_goals (apply ol_nil))
      | (apply cw_cond_true; rfl; exact qA)
      | (apply cw_cond_false; rfl; exact qA)
      | apply cw_skip
      | apply cw_ret
      | apply cw_block
      | apply cw_exit
    refine endsA ⟨rk36, flat (eK .u8) (out ++ [2] ++ bI 4 xs.length ++ xs) ++ sk36, 5⟩ (RVal.tmp rfl RVal.nil) (by rw [hf2]; exact qK) ?_
    refine ⟨rk36, ck36, sk36, out ++ [2] ++ bI 4 xs.length ++ xs, ?_, by omega, by rw [hl2]; rfl, rfl, by rw [hl2, hf2]; exact ok36⟩
    rw [show out ++ [2] ++ bI 4 xs.length ++ xs = out ++ ([2] ++ bI 4 xs.length ++ xs) by simp only [List.append_assoc]]
    exact wrP.all _ _
end Go.Proofs.Ytagmoecojmlogaa
namespace Go.Proofs.Ytagmoecojmlogaa
set_option maxRecDepth 20000
set_option linter.unusedSimpArgs false
set_option linter.unusedVariables false
open Go Go.Fw
structure WSt where
  i : Nat
  r : Option Nat
  c : Nat
  sp : List Value
  o : List Int
theorem encI_list {d : Nat} {h : Hd} {L : List (It d)} (h3 : h.k = 3) : encI (d + 1) (h, L) = ([3] ++ bI 4 h.m) ++ L.flatMap (encI d) := by
  show (if h.k = 3 then 3 :: (bI 4 h.m ++ L.flatMap (encI d)) else encH h) = _
  rw [if_pos h3]
  rfl
theorem okI_list {d : Nat} {h : Hd} {L : List (It d)} (h3 : h.k = 3) : okI (d + 1) (h, L) = (decide (h.n = 0 ∧ h.B.xs.length = 0 ∧ h.m ≤ 1000) && L.all (okI d)) := by
  show (if h.k = 3 then decide (h.n = 0 ∧ h.B.xs.length = 0 ∧ h.m ≤ 1000) && L.all (okI d) else okH h) = _
  rw [if_pos h3]
theorem flatMap_take_succ {α β : Type} (f : α → List β) {L : List α} {i : Nat} (h : i < L.length) : (L.take (i + 1)).flatMap f = (L.take i).flatMap f ++ f L[i] := by rw [List.take_succ_eq_append_getElem h, List.flatMap_append]; simp
end Go.Proofs.Ytagmoecojmlogaa
namespace Go.Proofs.Ytagmoecojmlogaa
set_option maxRecDepth 20000
set_option linter.unusedSimpArgs false
set_option linter.unusedVariables false
open Go Go.Fw
attribute [local irreducible] CW OL OD FX Stp FnC FnV FnA Ret bI bmid encI wrP
set_option maxHeartbeats 1600000
theorem write_spec : ∀ (d : Nat) {M : View} {w : World}, View.le M (View.of w) → ∀ {x : It d}, ItV M d x → okI d x = true → ∀ {r : Option Nat} {A : Option Addr} {cap n : Nat} {out : List Int} {sp : List Value}, (∀ b, r = some b → M b = none) → OB.ok ⟨r, flat (eK .u8) out ++ sp, 5⟩ w → SO r n cap (flat (eK .u8) out) sp 1 → out.length = n → n ≤ 2147483648 →
    FnA Try.prog 76 [.slice (base r A) n cap, .agg x.enc.toArray] w ⟨r, flat (eK .u8) out ++ sp, 5⟩ (WRA A out (encI d x)) := by
  intro d
  induction d with
  | zero =>
    intro M w hM x hx hok r A cap n out sp hr ho so hn hn2
    by_cases hl : 16384 < n
    · exact write_long hM hr ho so hn hn2 hl _
    · rw [encI_leaf (.inr rfl)]
      rw [okI_leaf (.inr rfl)] at hok
      exact write_leaf hM hx.head hok hr ho so hn (by omega)
  | succ d ih =>
    intro M w hM x hx hok r A cap n out sp hr ho so hn hn2
    by_cases hl : 16384 < n
    · exact write_long hM hr ho so hn hn2 hl _
    · by_cases h3 : x.hd.k = 3
      · obtain ⟨h, L⟩ := x
        obtain ⟨hv, hlL, sL, hL⟩ := hx
        have h3' : h.k = 3 := h3
        have e := encI_list (d := d) (L := L) h3'
        have eo : okI (d + 1) (h, L) = (decide (h.n = 0 ∧ h.B.xs.length = 0 ∧ h.m ≤ 1000) && L.all (okI d)) := by
          show (if h.k = 3 then decide (h.n = 0 ∧ h.B.xs.length = 0 ∧ h.m ≤ 1000) && L.all (okI d) else okH h) = _
          rw [if_pos h3']
        rw [eo, Bool.and_eq_true, decide_eq_true_eq, List.all_eq_true] at hok
        obtain ⟨⟨hn0, hB0, hm⟩, hall⟩ := hok
        rw [e]
        have hxe : It.enc (d := d + 1) (h, L) = [.int .i64 h.k, .int .i64 h.n, .slice h.B.a h.B.xs.length h.B.c, .slice h.La h.m h.Lc] := rfl
        rw [hxe]
        clear hxe e eo h3
        obtain ⟨k, nn, ⟨xs, Ba, Bb, Bo, Bc⟩, La, Lb, Lo, Lc, m⟩ := h
        dsimp only at hv hlL sL h3' hm ⊢
        subst h3'
        have hu := (u64_cast (m : Int)).symm
        rw [u64_nat (by omega)] at hu
        have hf1 : flat (eK .u8) (out ++ [3]) = flat (eK .u8) out ++ [.int .u8 3] := by rw [flat_append, flat_one]
        have hl1 : (out ++ [3]).length = n + 1 := by rw [List.length_append, hn]; rfl
        have hl2 : (out ++ [3] ++ bI 4 m).length = n + 1 + 4 := by rw [List.length_append, hl1, bI_length]
        refine enterA (M := M) Try.func76 rfl rfl rfl rfl hM ho hr ?_
        repeat' first
          | apply cw_seq
          | (refine cw_region_id 0 ?_; (apply ol_val; rfl; first | (apply s_boxN; rfl; intro bk3) | (apply s_box1; rfl; rfl; intro bk3)); (apply ol_as; rfl; rfl); (apply ol_nil))
          | (refine cw_region_id 1 ?_; (apply ol_mv; rfl; rfl); (apply ol_val; rfl; apply stp_pur; apply s_len; rfl; exact el_26); (apply ol_val; rfl; apply stp_cmp; apply s_gtr; rfl; rfl; all_goals (intro hc9; try (exfalso; (first | exact hc9 rfl | omega)))); all_goals (apply ol_nil))
          | (refine cw_region_id 3 ?_; (apply ol_mv; rfl; rfl); (apply ol_fa; rfl; rfl; exact fd_101_0; exact qZ); (apply ol_ld; rfl; rfl; rfl; exact qP); (apply ol_val; rfl; apply stp_pur; first | (apply s_conv; rfl; rfl; exact ti_5; (focus (apply wrap_u8; omega))) | (apply s_conv; rfl; rfl; exact ti_5; rfl)); (apply ol_val; rfl; apply s_buildSl; rfl; exact el_26; exact sz_5; exact zb_5; exact qN; rfl; rfl; (exact Nat.le_of_ble_eq_true rfl); exact qN; exact qR; intro bk15); (apply ol_val; rfl; first | (apply s_append_e; rfl; rfl; exact qN; exact el_26; exact sz_5; exact zb_5; rfl; exact by_5; (first | exact (fun _ => rfl)); (first | exact qQ); (first | rfl); exact qO; exact qO; intro rk16 sk16 ck16 ok16) | (apply s_append_r; rfl; rfl; exact qN; (first | rfl | exact (List.append_nil _).symm); exact el_26; exact sz_5; exact zb_5; rfl; exact by_5; (first | exact SO.nil _ | assumption | (exact ⟨by simp, by simp, Nat.le_refl _, by simp⟩)); (first | exact (fun _ => rfl)); (first | exact qQ); (first | rfl); exact qO; exact qO; intro rk16 sk16 ck16 ok16) | (apply s_append_b; rfl; rfl; exact qN; (first | rfl | exact (List.append_nil _).symm); exact el_26; exact sz_5; exact zb_5; rfl; exact by_5; (first | exact SO.nil _ | assumption | (exact ⟨by simp, by simp, Nat.le_refl _, by simp⟩)); (first | exact (fun _ => rfl)); (first | exact qQ); (first | rfl); exact qO; exact qO; intro rk16 sk16 ck16 ok16) | (apply s_append_n; rfl; rfl; exact qN; exact el_26; exact sz_5; exact zb_5; rfl; exact by_5; (first | exact (fun _ => rfl)); (first | exact qQ); (first | rfl); exact qO; exact qO; intro rk16 sk16 ck16 ok16)); (apply ol_as; rfl; rfl); (apply ol_nil))
          | (refine cw_region_id 4 ?_; (apply ol_fa; rfl; rfl; exact fd_101_0; exact qZ); (apply ol_ld; rfl; rfl; rfl; exact qP); (apply ol_nil))
          | (apply cw_cond_true; rfl; exact qA)
          | (apply cw_cond_false; rfl; exact qA)
          | apply cw_skip
          | apply cw_ret
          | apply cw_exit
        rw [← hf1] at ok16
        refine cw_pick (own' := [⟨rk16, flat (eK .u8) (out ++ [3]) ++ sk16, 5⟩, ⟨some bk3, [.int .i64 3, .int .i64 nn, .slice Ba xs.length Bc, .slice La m Lc], 101⟩]) (by rw [hf1]; exact qK) ?_
        repeat' first
          | apply cw_seq
          | (refine cw_region_id 5 ?_; (apply ol_val; rfl; apply stp_cmp; apply s_eql; rfl; rfl; all_goals (intro hc20; try (exfalso; (first | exact hc20 rfl | omega)))); all_goals (apply ol_as; rfl; rfl); all_goals (apply ol_nil))
          | (refine cw_region_id 7 ?_; (apply ol_val; rfl; apply stp_cmp; apply s_eql; rfl; rfl; all_goals (intro hc27; try (exfalso; (first | exact hc27 rfl | omega)))); all_goals (apply ol_as; rfl; rfl); all_goals (apply ol_nil))
          | (refine cw_region_id 9 ?_; (apply ol_mv; rfl; rfl); (apply ol_fa; rfl; rfl; exact fd_101_3; exact qZ); (apply ol_ld; rfl; rfl; rfl; exact qP); (apply ol_val; rfl; apply stp_pur; apply s_len; rfl; exact el_99); (apply ol_val; rfl; apply stp_pur; first | (apply s_conv; rfl; rfl; exact ti_114; (focus (apply wrap_u64; omega))) | (apply s_conv; rfl; rfl; exact ti_114; exact hu) | (apply s_conv; rfl; rfl; exact ti_114; rfl)); (apply ol_val; rfl; (apply number_step (size := 4); rfl; rfl; rfl; exact ok16; omega; omega; intro r2 sp2 cap2 so2)); all_goals (apply ol_as; rfl; rfl); all_goals (apply ol_nil))
          | (refine cw_region_id 10 ?_; (apply ol_fa; rfl; rfl; exact fd_101_3; exact qZ); (apply ol_ld; rfl; rfl; rfl; exact qP); (apply ol_val; rfl; apply stp_pur; apply s_len; rfl; exact el_99); (apply ol_mv; rfl; rfl); (apply ol_nil))
          | (apply cw_cond_true; rfl; exact qA)
          | (apply cw_cond_false; rfl; exact qA)
          | apply cw_skip
          | apply cw_ret
          | apply cw_block
          | apply cw_exit
        refine cw_loopK (σ := WSt) [44, 45] (by (repeat (first | exact Keep.nil | (apply Keep.cons; rfl)))) (fun s => [(0, .slice (base s.r A) s.o.length s.c), (46, .int .i64 s.i)]) (fun _ => M) (fun s => [⟨s.r, flat (eK .u8) s.o ++ s.sp, 5⟩, ⟨some bk3, [.int .i64 3, .int .i64 nn, .slice Ba xs.length Bc, .slice La m Lc], 101⟩]) (fun s => (s.i ≤ m ∧ s.o.length ≤ 2147483648) ∧ wrP out ([3] ++ bI 4 m ++ (L.take s.i).flatMap (encI d)) s.o ∧ SO s.r s.o.length s.c (flat (eK .u8) s.o) s.sp 1) (fun s => m - s.i) ⟨0, r2, cap2, sp2, out ++ [3] ++ bI 4 m⟩ (by dsimp only; rw [hl2]; (repeat (first | exact trivial | refine And.intro rfl ?_))) (View.le.refl _) (by exact qK) ⟨⟨Nat.zero_le _, by dsimp only; omega⟩, by dsimp only; rw [List.take_zero, List.flatMap_nil, List.append_nil, List.append_assoc]; exact wrP.all _ _, by dsimp only; rw [hl2]; exact so2⟩ ?_
        rintro ⟨i, r3, c3, sp3, o3⟩ ⟨⟨hi, ho3⟩, hw3, so3⟩
        dsimp only at hi ho3 hw3 so3
        dsimp only
        by_cases him : i < m
        · have hil : i < L.length := by omega
          have hci := sL.cells i hil
          have hfm := flatMap_take_succ (encI d) hil
          have kw : ∀ (w' : World), View.le M (View.of w') → (∀ b, r3 = some b → M b = none) → OB.ok ⟨r3, flat (eK .u8) o3 ++ sp3, 5⟩ w' → FnA Try.prog 76 [.slice (base r3 A) o3.length c3, .agg (It.enc (L[i]'hil)).toArray] w' ⟨r3, flat (eK .u8) o3 ++ sp3, 5⟩ (WRA A o3 (encI d (L[i]'hil))) := fun w' h h1 h2 =>
            ih h (hL _ (List.getElem_mem hil)) (hall _ (List.getElem_mem hil)) h1 h2 so3 rfl ho3
          have hstep : ∀ o4, wrP o3 (encI d (L[i]'hil)) o4 → wrP out ([3] ++ bI 4 m ++ (L.take (i + 1)).flatMap (encI d)) o4 := fun o4 h => by
            rw [hfm, ← List.append_assoc]
            exact hw3.trans h
          clear hfm hL hall
          generalize L[i]'hil = y at *
          unfold It.enc at hci kw
          unfold WRA at kw
          repeat' first
            | apply cw_seq
            | (refine cw_region_id 11 ?_; (apply ol_val; rfl; apply stp_cmp; apply s_lss; rfl; rfl; all_goals (intro hc47; try (exfalso; (first | exact hc47 rfl | omega)))); all_goals (apply ol_nil))
            | (refine cw_region_id 12 ?_; (apply ol_val; rfl; apply stp_pur; first | (apply s_indexK; rfl; rfl; exact el_99; exact sz_101; (first | rfl | exact sL.at_ (by omega)); omega) | (apply s_indexO; rfl; rfl; exact el_99; exact sz_101; (first | rfl | exact sL.at_ (by omega)); omega)); (apply ol_ldN; rfl; rfl; rfl; exact sz_101; (first | exact qQ | (apply RdN.view; exact hci))); (apply ol_val; rfl; apply s_alloc; exact zb_101; exact qN; intro bk6); (apply ol_eff; apply s_storeN; rfl; rfl; exact sz_101; rfl; rfl; exact qN; exact qN); (apply ol_nil))
            | (refine cw_region_id 13 ?_; (apply ol_mv; rfl; rfl); (apply ol_ldN; rfl; rfl; rfl; exact sz_101; (first | exact qQ | (apply RdN.view; exact hci))); (apply ol_val; rfl; (apply s_callA; rfl; exact gf_76; (intro w' hw'; exact kw w' hw'.le (hw'.sep_ (x := ⟨r3, flat (eK .u8) o3 ++ sp3, 5⟩) (by (repeat (first | exact Has.here | apply Has.there)))) (hw'.ok_ (by (repeat (first | exact Has.here | apply Has.there))))); exact qS; (intro v y h; obtain ⟨r4, c4, sp4, o4, hw4, hl4, rfl, rfl, so4⟩ := h))); all_goals (apply ol_as; rfl; rfl); all_goals (apply ol_nil))
            | (refine cw_region_id 14 ?_; (apply ol_val; rfl; apply stp_pur; apply s_add64; rfl; rfl; omega); (apply ol_mv; rfl; rfl); (apply ol_nil))
            | (apply cw_cond_true; rfl; exact qA)
            | (apply cw_cond_false; rfl; exact qA)
            | apply cw_skip
            | apply cw_ret
            | apply cw_block
            | apply cw_exit
          exact ⟨⟨i + 1, r4, c4, sp4, o4⟩, ⟨by (repeat (first | exact trivial | refine And.intro rfl ?_)), View.le.refl _, by exact qK, ⟨⟨him, hl4⟩, hstep o4 hw4, so4⟩, by dsimp only; omega⟩⟩
        · have htk : L.take i = L := List.take_of_length_le (by omega)
          rw [htk] at hw3
          repeat' first
            | apply cw_seq
            | (refine cw_region_id 11 ?_; (apply ol_val; rfl; apply stp_cmp; apply s_lss; rfl; rfl; all_goals (intro hc47; try (exfalso; (first | exact hc47 rfl | omega)))); all_goals (apply ol_nil))
            | (refine cw_region_id 15 ?_; (apply ol_mv; rfl; rfl); (apply ol_as; rfl; rfl); (apply ol_nil))
            | (apply cw_cond_true; rfl; exact qA)
            | (apply cw_cond_false; rfl; exact qA)
            | apply cw_skip
            | apply cw_ret
            | apply cw_block
            | apply cw_exit
          refine endsA ⟨r3, flat (eK .u8) o3 ++ sp3, 5⟩ (RVal.tmp rfl RVal.nil) (by exact qK) ?_
          exact ⟨r3, c3, sp3, o3, hw3, ho3, rfl, rfl, so3⟩
      · rw [encI_leaf (.inl h3)]
        rw [okI_leaf (.inl h3)] at hok
        exact write_leaf hM hx.head hok hr ho so hn (by omega)
end Go.Proofs.Ytagmoecojmlogaa
namespace Go.Proofs.Ytagmoecojmlogaa
set_option maxRecDepth 20000
set_option linter.unusedSimpArgs false
set_option linter.unusedVariables false
open Go Go.Fw
/-- What Encode says: the error and the bytes. -/
def encP (x : It 8) : Nat × List Int := if okI 8 x = false then (1, []) else if 16384 < (encI 8 x).length then (5, []) else (0, encI 8 x)
def BRs (p : Nat × List Int) (v : Value) (new : List OB) : Prop := ∃ u, v = .tuple #[u, .int .i64 p.1] ∧ RowRes (eK .u8) 1 5 p.2 u new
theorem RowRes.nil8 : RowRes (eK .u8) 1 5 [] (.slice none 0 0) [⟨none, [], 5⟩] := RowRes.zero (eK .u8) 1 5
structure ESt where
  i : Nat
  r : Option Nat
  A : Option Addr
  c : Nat
  sp : List Value
end Go.Proofs.Ytagmoecojmlogaa
namespace Go.Proofs.Ytagmoecojmlogaa
set_option maxRecDepth 20000
set_option linter.unusedSimpArgs false
set_option linter.unusedVariables false
open Go Go.Fw
attribute [local irreducible] CW OL OD FX Stp FnC FnV FnA Ret bI bmid encI wrP okI
set_option maxHeartbeats 1600000
theorem encode_spec {M : View} {w : World} (hM : View.le M (View.of w)) {x : It 8} (hx : ItV M 8 x) :
    FnC Try.prog 65 [.agg x.enc.toArray] w (BRs (encP x)) := by
  have kv := fun (w' : World) (h : View.le M (View.of w')) => valid_spec h hx
  have kw := fun (w' : World) (h : View.le M (View.of w')) (hok : okI 8 x = true) => write_spec 8 h hx hok (r := none) (A := none) (cap := 0) (n := 0) (out := []) (sp := []) (fun b hb => by cases hb) rfl (SO.nil 1) rfl (by omega)
  unfold encP
  unfold It.enc at *
  generalize x.hd = h at *
  obtain ⟨k, n, ⟨xs, Ba, Bb, Bo, Bc⟩, La, Lb, Lo, Lc, m⟩ := h
  dsimp only at kv kw ⊢
  refine enterF (M := M) Try.func65 rfl rfl rfl rfl hM ?_
  refine cw_none 5 ?_
  refine cw_none 5 ?_
  by_cases hok : okI 8 x = false
  · rw [if_pos hok]
    rw [hok] at kv
    repeat' first
      | apply cw_seq
      | (refine cw_region_id 0 ?_; (apply ol_val; rfl; first | (apply s_boxN; rfl; intro bk1) | (apply s_box1; rfl; rfl; intro bk1)); (apply ol_as; rfl; rfl); (apply ol_as; rfl; rfl); (apply ol_nil))
      | (refine cw_region_id 1 ?_; (apply ol_ldN; rfl; rfl; rfl; exact sz_101; exact qQ); (apply ol_val; rfl; apply s_callv; rfl; exact gf_75; (intro w' hw'; exact kv w' hw'.le)); (apply ol_val; rfl; apply stp_pur; first | (apply s_not_t; rfl; exact qA) | (apply s_not_f; rfl; exact qA) | (apply s_not; rfl)); (apply ol_nil))
      | (refine cw_region_id 2 ?_; (apply ol_as; rfl; rfl); (apply ol_as; rfl; rfl); (apply ol_nil))
      | (apply cw_cond_true; rfl; exact qA)
      | (apply cw_cond_false; rfl; exact qA)
      | apply cw_skip
      | apply cw_ret
      | apply cw_block
      | apply cw_exit
    refine ends [⟨none, [], 5⟩] (RVal.tmp rfl (RVal.tmp rfl RVal.nil)) (by exact qK) ?_
    exact ⟨_, rfl, RowRes.nil8⟩
  · rw [if_neg hok]
    have hok1 : okI 8 x = true := by simpa using hok
    rw [hok1] at kv
    have kw' := fun (w' : World) (h : View.le M (View.of w')) => kw w' h hok1
    clear kw
    generalize encI 8 x = E at *
    unfold WRA at kw'
    have hfin : ∀ o4, wrP [] E o4 → (if 16384 < E.length then ((5, []) : Nat × List Int) else (0, E)) = if 16384 < o4.length then (5, []) else (0, o4) := fun o4 h => by
      unfold wrP at h
      simp only [List.length_nil, Nat.zero_add, List.nil_append] at h
      by_cases hl : 16384 < E.length
      · rw [if_pos hl, if_pos (h.2 hl)]
      · rw [if_neg hl, h.1 (by omega), if_neg hl]
    repeat' first
      | apply cw_seq
      | (refine cw_region_id 0 ?_; (apply ol_val; rfl; first | (apply s_boxN; rfl; intro bk1) | (apply s_box1; rfl; rfl; intro bk1)); (apply ol_as; rfl; rfl); (apply ol_as; rfl; rfl); (apply ol_nil))
      | (refine cw_region_id 1 ?_; (apply ol_ldN; rfl; rfl; rfl; exact sz_101; exact qQ); (apply ol_val; rfl; apply s_callv; rfl; exact gf_75; (intro w' hw'; exact kv w' hw'.le)); (apply ol_val; rfl; apply stp_pur; first | (apply s_not_t; rfl; exact qA) | (apply s_not_f; rfl; exact qA) | (apply s_not; rfl)); (apply ol_nil))
      | (refine cw_region_id 3 ?_; (apply ol_ldN; rfl; rfl; rfl; exact sz_101; exact qQ); (apply ol_val; rfl; (apply s_callA (x := ⟨none, [], 5⟩); rfl; exact gf_76; (intro w' hw'; exact kw' w' hw'.le); exact qS; (intro v y h; obtain ⟨r4, c4, sp4, o4, hw4, hl4, rfl, rfl, so4⟩ := h))); all_goals (apply ol_as; rfl; rfl); all_goals (apply ol_nil))
      | (apply cw_cond_true; rfl; exact qA)
      | (apply cw_cond_false; rfl; exact qA)
      | apply cw_skip
      | apply cw_ret
      | apply cw_block
      | apply cw_exit
    rw [hfin o4 hw4]
    clear hfin hw4
    by_cases hl : 16384 < o4.length
    · rw [if_pos hl]
      repeat' first
        | apply cw_seq
        | (refine cw_region_id 4 ?_; (apply ol_mv; rfl; rfl); (apply ol_val; rfl; apply stp_pur; apply s_len; rfl; exact el_26); (apply ol_val; rfl; apply stp_cmp; apply s_gtr; rfl; rfl; all_goals (intro hc12; try (exfalso; (first | exact hc12 rfl | omega)))); all_goals (apply ol_nil))
        | (refine cw_region_id 5 ?_; (apply ol_as; rfl; rfl); (apply ol_as; rfl; rfl); (apply ol_nil))
        | (apply cw_cond_true; rfl; exact qA)
        | (apply cw_cond_false; rfl; exact qA)
        | apply cw_skip
        | apply cw_ret
        | apply cw_block
        | apply cw_exit
      refine ends [⟨none, [], 5⟩] (RVal.tmp rfl (RVal.tmp rfl RVal.nil)) (by exact qK) ?_
      exact ⟨_, rfl, RowRes.nil8⟩
    · rw [if_neg hl]
      repeat' first
        | apply cw_seq
        | (refine cw_region_id 4 ?_; (apply ol_mv; rfl; rfl); (apply ol_val; rfl; apply stp_pur; apply s_len; rfl; exact el_26); (apply ol_val; rfl; apply stp_cmp; apply s_gtr; rfl; rfl; all_goals (intro hc12; try (exfalso; (first | exact hc12 rfl | omega)))); all_goals (apply ol_nil))
        | (refine cw_region_id 6 ?_; (apply ol_mv; rfl; rfl); (apply ol_as; rfl; rfl); (apply ol_as; rfl; rfl); (apply ol_nil))
        | (apply cw_cond_true; rfl; exact qA)
        | (apply cw_cond_false; rfl; exact qA)
        | apply cw_skip
        | apply cw_ret
        | apply cw_block
        | apply cw_exit
      refine ends [⟨r4, flat (eK .u8) o4 ++ sp4, 5⟩] (RVal.tmp rfl (RVal.tmp rfl RVal.nil)) (by exact qK) ?_
      exact ⟨_, rfl, r4, none, c4, sp4, rfl, rfl, so4⟩
end Go.Proofs.Ytagmoecojmlogaa
namespace Go.Proofs.Ytagmoecojmlogaa
set_option maxRecDepth 20000
set_option linter.unusedSimpArgs false
set_option linter.unusedVariables false
open Go Go.Fw
theorem SlA.none' {α : Type} {M : View} {enc : α → List Value} {sz : Nat} {a : Option Addr} {b o : Nat} : SlA M enc sz a ([] : List α) b o := ⟨fun h => by simp at h, fun i h => by simp at h⟩
/-- A leaf, so deep as it is read. -/
def mkL : (d : Nat) → Hd → It d
  | 0, h => h
  | _ + 1, h => (h, [])
theorem mkL_hd : ∀ (d : Nat) (h : Hd), (mkL d h).hd = h
  | 0, _ => rfl
  | _ + 1, _ => rfl
theorem ItV.mkL {M : View} {h : Hd} (hv : HdV M h) (hm : h.m = 0) : ∀ d, ItV M d (mkL d h)
  | 0 => hv
  | d + 1 => ⟨hv, hm.symm, SlA.none', fun x hx => by cases hx⟩
theorem okI_mkL {h : Hd} (h3 : h.k ≠ 3) (d : Nat) : okI d (mkL d h) = okH h := by
  rw [okI_leaf (.inl (by rw [mkL_hd]; exact h3)), mkL_hd]
theorem encI_mkL {h : Hd} (h3 : h.k ≠ 3) (d : Nat) : encI d (mkL d h) = encH h := by
  rw [encI_leaf (.inl (by rw [mkL_hd]; exact h3)), mkL_hd]
def hdN (n : Int) : Hd := ⟨1, n, ⟨[], none, 0, 0, 0⟩, none, 0, 0, 0, 0⟩
theorem mkL_enc (d : Nat) (h : Hd) : (mkL d h).enc = [.int .i64 h.k, .int .i64 h.n, .slice h.B.a h.B.xs.length h.B.c, .slice h.La h.m h.Lc] := by unfold It.enc; rw [mkL_hd]
def lfN (n : Int) : List Int := 1 :: bI 8 (u64 n)
theorem lfN_length (n : Int) : (lfN n).length = 9 := by unfold lfN; rw [List.length_cons, bI_length]
/-- The cells of a number's leaf. -/
def lfE (n : Int) : List Value := [.int .i64 1, .int .i64 n, .slice none 0 0, .slice none 0 0]
theorem lfE_ones (n : Int) : Fw.ones (lfE n) = true := rfl
def IntsR (ns : List Int) (v : Value) (new : List OB) : Prop := ∃ r A c sp, v = .agg [.int .i64 3, .int .i64 0, .slice none 0 0, .slice (base r A) ns.length c].toArray ∧ new = [⟨r, flat lfE ns ++ sp, 101⟩] ∧ SO r ns.length c (flat lfE ns) sp 4
/-- The item. -/
def mkI (ns : List Int) (A : Option Addr) (b c : Nat) : It 7 := (⟨3, 0, ⟨[], none, 0, 0, 0⟩, A, b, 0, c, ns.length⟩, ns.map fun n => mkL 6 (hdN n))
def inE (ns : List Int) : List Int := 3 :: (bI 4 ns.length ++ ns.flatMap lfN)
theorem inE_length (ns : List Int) : (inE ns).length = 5 + 9 * ns.length := by
  have : ∀ ns : List Int, (ns.flatMap lfN).length = 9 * ns.length := fun ns => by
    induction ns with
    | nil => rfl
    | cons n ns ih => rw [List.flatMap_cons, List.length_append, lfN_length, ih, List.length_cons]; omega
  unfold inE
  rw [List.length_cons, List.length_append, bI_length, this]
  omega
end Go.Proofs.Ytagmoecojmlogaa
namespace Go.Proofs.Ytagmoecojmlogaa
set_option maxRecDepth 20000
set_option linter.unusedSimpArgs false
set_option linter.unusedVariables false
open Go Go.Fw
attribute [local irreducible] CW OL OD FX Stp FnC FnV FnA Ret bI encI okI lfN lfE
set_option maxHeartbeats 800000
theorem ints_spec {M : View} {w : World} (hM : View.le M (View.of w)) {ns : List Int} {n cc : Nat} {a : Option Addr} {b o : Nat} (hn : ns.length = n) (hn1 : n ≤ 1000) (s : SlA M (eK .i64) 1 a ns b o) :
    FnC Try.prog 66 [.slice a n cc] w (IntsR ns) := by
  subst hn
  refine enterF (M := M) Try.func66 rfl rfl rfl rfl hM ?_
  refine cw_none 101 ?_
  repeat' first
    | apply cw_seq
    | (refine cw_region_id 0 ?_; (apply ol_val; rfl; apply s_alloc; exact zb_101; exact qN; intro bk2); (apply ol_nil))
    | (refine cw_region_id 1 ?_; (apply ol_val; rfl; apply stp_pur; apply s_buildS; rfl; exact fs_101; exact zb_101; exact qR); (apply ol_val; rfl; apply s_alloc; exact zb_101; exact qN; intro bk3); (apply ol_eff; apply s_storeN; rfl; rfl; exact sz_101; rfl; rfl; exact qN; exact qN); (apply ol_nil))
    | (refine cw_region_id 2 ?_; (apply ol_mv; rfl; rfl); (apply ol_val; rfl; apply stp_pur; apply s_len; rfl; exact el_23); (apply ol_mv; rfl; rfl); (apply ol_nil))
    | (apply cw_cond_true; rfl; exact qA)
    | (apply cw_cond_false; rfl; exact qA)
    | apply cw_skip
    | apply cw_ret
    | apply cw_block
    | apply cw_exit
  refine cw_loopK (σ := NSt) [2, 3, 7, 8] (by (repeat (first | exact Keep.nil | (apply Keep.cons; rfl)))) (fun s => [(9, .int .i64 s.j)]) (fun _ => M) (fun s => [⟨s.r, flat lfE (ns.take s.j) ++ s.sp, 101⟩, ⟨some bk3, [.int .i64 3, .int .i64 0, .slice none 0 0, .slice (base s.r none) s.j s.c], 101⟩, ⟨some bk2, [.int .i64 0, .int .i64 0, .slice none 0 0, .slice none 0 0], 101⟩]) (fun s => s.j ≤ ns.length ∧ SO s.r s.j s.c (flat lfE (ns.take s.j)) s.sp 4) (fun s => ns.length - s.j) ⟨0, none, 0, []⟩ (by (repeat (first | exact trivial | refine And.intro rfl ?_))) (View.le.refl _) (by rw [List.take_zero]; exact qK) ⟨Nat.zero_le _, by rw [List.take_zero]; exact SO.nil 4⟩ ?_
  rintro ⟨i, r, c, sp⟩ ⟨hi, so⟩
  dsimp only at hi so
  dsimp only
  by_cases hin : i < ns.length
  · have hci := s.cells i hin
    have hst := List.take_succ_eq_append_getElem hin
    have hfl : flat lfE (ns.take (i + 1)) = flat lfE (ns.take i) ++ [.int .i64 1, .int .i64 ns[i], .slice none 0 0, .slice none 0 0] := by
      rw [hst, flat_append]
      congr 1
      show lfE ns[i] ++ [] = _
      rw [List.append_nil]
      unfold lfE
      rfl
    generalize ns[i] = z at *
    generalize ns.take i = P at *
    repeat' first
      | apply cw_seq
      | (refine cw_region_id 3 ?_; (apply ol_val; rfl; apply stp_cmp; apply s_lss; rfl; rfl; all_goals (intro hc10; try (exfalso; (first | exact hc10 rfl | omega)))); all_goals (apply ol_nil))
      | (refine cw_region_id 4 ?_; (apply ol_val; rfl; apply stp_pur; first | (apply s_indexK; rfl; rfl; exact el_23; exact sz_3; (first | rfl | exact s.at_ (by omega)); omega) | (apply s_indexO; rfl; rfl; exact el_23; exact sz_3; (first | rfl | exact s.at_ (by omega)); omega)); (apply ol_ld; rfl; rfl; rfl; (first | exact qP | (apply RdN.view; exact hci))); (apply ol_as; rfl; rfl); (apply ol_nil))
      | (refine cw_region_id 5 ?_; (apply ol_fa; rfl; rfl; exact fd_101_3; exact qZ); (apply ol_ld; rfl; rfl; rfl; (first | exact qP | (apply RdN.view; exact hci))); (apply ol_mv; rfl; rfl); (apply ol_val; rfl; apply stp_pur; apply s_buildS; rfl; exact fs_101; exact zb_101; exact qR); (apply ol_val; rfl; apply s_buildSl; rfl; exact el_99; exact sz_101; exact zb_101; exact qN; rfl; rfl; (exact Nat.le_of_ble_eq_true rfl); exact qN; (focus ((repeat (first | exact Fil.nil | (apply Fil.one; rfl; rfl; (repeat (first | exact SetAt.zero | apply SetAt.succ))) | (apply Fil.agg; rfl; rfl; (repeat (first | exact SetN.nil | (apply SetN.cons; (repeat (first | exact SetAt.zero | apply SetAt.succ))))); (exact Nat.le_of_ble_eq_true rfl)))); done)); intro bk17); (apply ol_val; rfl; first | (apply s_append_e; rfl; rfl; exact qN; exact el_99; exact sz_101; exact zb_101; rfl; exact by_101; (first | exact (fun _ => rfl) | (intro _; exact s.at_ (by omega))); (first | exact qQ); (first | rfl | exact ones_flat lfE_ones _); exact qO; exact qO; intro rk18 sk18 ck18 ok18) | (apply s_append_r; rfl; rfl; exact qN; (first | rfl | exact (List.append_nil _).symm); exact el_99; exact sz_101; exact zb_101; rfl; exact by_101; (first | exact SO.nil _ | assumption | (exact ⟨by simp, by simp, Nat.le_refl _, by simp⟩)); (first | exact (fun _ => rfl) | (intro _; exact s.at_ (by omega))); (first | exact qQ); (first | rfl | exact ones_flat lfE_ones _); exact qO; exact qO; intro rk18 sk18 ck18 ok18) | (apply s_append_b; rfl; rfl; exact qN; (first | rfl | exact (List.append_nil _).symm); exact el_99; exact sz_101; exact zb_101; rfl; exact by_101; (first | exact SO.nil _ | assumption | (exact ⟨by simp, by simp, Nat.le_refl _, by simp⟩)); (first | exact (fun _ => rfl) | (intro _; exact s.at_ (by omega))); (first | exact qQ); (first | rfl | exact ones_flat lfE_ones _); exact qO; exact qO; intro rk18 sk18 ck18 ok18) | (apply s_append_n; rfl; rfl; exact qN; exact el_99; exact sz_101; exact zb_101; rfl; exact by_101; (first | exact (fun _ => rfl) | (intro _; exact s.at_ (by omega))); (first | exact qQ); (first | rfl | exact ones_flat lfE_ones _); exact qO; exact qO; intro rk18 sk18 ck18 ok18)); (apply ol_fa; rfl; rfl; exact fd_101_3; exact qZ); (apply ol_eff; apply s_store1; rfl; rfl; exact sz_99; rfl; exact qN; exact qT); (apply ol_nil))
      | (refine cw_region_id 6 ?_; (apply ol_val; rfl; apply stp_pur; apply s_add64; rfl; rfl; omega); (apply ol_mv; rfl; rfl); (apply ol_nil))
      | (refine cw_region_id 7 ?_; (apply ol_ldN; rfl; rfl; rfl; exact sz_101; (first | exact qQ | (apply RdN.view; exact hci))); (apply ol_eff; apply s_storeN; rfl; rfl; exact sz_101; rfl; rfl; exact qN; exact qN); (apply ol_nil))
      | (apply cw_cond_true; rfl; exact qA)
      | (apply cw_cond_false; rfl; exact qA)
      | apply cw_skip
      | apply cw_ret
      | apply cw_block
      | apply cw_exit
    rw [← hfl] at ok18
    exact ⟨⟨i + 1, rk18, ck18, sk18⟩, ⟨by (repeat (first | exact trivial | refine And.intro rfl ?_)), View.le.refl _, by dsimp only; rw [hfl]; exact qK, ⟨hin, ok18⟩, by dsimp only; omega⟩⟩
  · obtain rfl : i = ns.length := by omega
    rw [List.take_length] at so ⊢
    repeat' first
      | apply cw_seq
      | (refine cw_region_id 3 ?_; (apply ol_val; rfl; apply stp_cmp; apply s_lss; rfl; rfl; all_goals (intro hc10; try (exfalso; (first | exact hc10 rfl | omega)))); all_goals (apply ol_nil))
      | (refine cw_region_id 4 ?_; (apply ol_val; rfl; apply stp_pur; first | (apply s_indexK; rfl; rfl; exact el_23; exact sz_3; (first | rfl); omega) | (apply s_indexO; rfl; rfl; exact el_23; exact sz_3; (first | rfl); omega)); (apply ol_ld; rfl; rfl; rfl; exact qP); (apply ol_as; rfl; rfl); (apply ol_nil))
      | (refine cw_region_id 5 ?_; (apply ol_fa; rfl; rfl; exact fd_101_3; exact qZ); (apply ol_ld; rfl; rfl; rfl; exact qP); (apply ol_mv; rfl; rfl); (apply ol_val; rfl; apply stp_pur; apply s_buildS; rfl; exact fs_101; exact zb_101; exact qR); (apply ol_val; rfl; apply s_buildSl; rfl; exact el_99; exact sz_101; exact zb_101; exact qN; rfl; rfl; (exact Nat.le_of_ble_eq_true rfl); exact qN; (focus ((repeat (first | exact Fil.nil | (apply Fil.one; rfl; rfl; (repeat (first | exact SetAt.zero | apply SetAt.succ))) | (apply Fil.agg; rfl; rfl; (repeat (first | exact SetN.nil | (apply SetN.cons; (repeat (first | exact SetAt.zero | apply SetAt.succ))))); (exact Nat.le_of_ble_eq_true rfl)))); done)); intro bk17); (apply ol_val; rfl; first | (apply s_append_e; rfl; rfl; exact qN; exact el_99; exact sz_101; exact zb_101; rfl; exact by_101; (first | exact (fun _ => rfl)); (first | exact qQ); (first | rfl); exact qO; exact qO; intro rk18 sk18 ck18 ok18) | (apply s_append_r; rfl; rfl; exact qN; (first | rfl | exact (List.append_nil _).symm); exact el_99; exact sz_101; exact zb_101; rfl; exact by_101; (first | exact SO.nil _ | assumption | (exact ⟨by simp, by simp, Nat.le_refl _, by simp⟩)); (first | exact (fun _ => rfl)); (first | exact qQ); (first | rfl); exact qO; exact qO; intro rk18 sk18 ck18 ok18) | (apply s_append_b; rfl; rfl; exact qN; (first | rfl | exact (List.append_nil _).symm); exact el_99; exact sz_101; exact zb_101; rfl; exact by_101; (first | exact SO.nil _ | assumption | (exact ⟨by simp, by simp, Nat.le_refl _, by simp⟩)); (first | exact (fun _ => rfl)); (first | exact qQ); (first | rfl); exact qO; exact qO; intro rk18 sk18 ck18 ok18) | (apply s_append_n; rfl; rfl; exact qN; exact el_99; exact sz_101; exact zb_101; rfl; exact by_101; (first | exact (fun _ => rfl)); (first | exact qQ); (first | rfl); exact qO; exact qO; intro rk18 sk18 ck18 ok18)); (apply ol_fa; rfl; rfl; exact fd_101_3; exact qZ); (apply ol_eff; apply s_store1; rfl; rfl; exact sz_99; rfl; exact qN; exact qT); (apply ol_nil))
      | (refine cw_region_id 6 ?_; (apply ol_val; rfl; apply stp_pur; apply s_add64; rfl; rfl; omega); (apply ol_mv; rfl; rfl); (apply ol_nil))
      | (refine cw_region_id 7 ?_; (apply ol_ldN; rfl; rfl; rfl; exact sz_101; exact qQ); (apply ol_eff; apply s_storeN; rfl; rfl; exact sz_101; rfl; rfl; exact qN; exact qN); (apply ol_nil))
      | (apply cw_cond_true; rfl; exact qA)
      | (apply cw_cond_false; rfl; exact qA)
      | apply cw_skip
      | apply cw_ret
      | apply cw_block
      | apply cw_exit
    refine ends [⟨r, flat lfE ns ++ sp, 101⟩] (RVal.cellN rfl rfl rfl (RdN.own (by (repeat (first | exact Has.here | apply Has.there))) (by focus ((repeat (first | rfl | constructor)); done))) RVal.nil) (by exact qK) ?_
    exact ⟨r, none, c, sp, rfl, rfl, so⟩
end Go.Proofs.Ytagmoecojmlogaa
namespace Go.Proofs.Ytagmoecojmlogaa
set_option maxRecDepth 20000
set_option linter.unusedSimpArgs false
set_option linter.unusedVariables false
open Go Go.Fw
structure C3 where
  f : Int
  t : Int
  a : Int
  deriving DecidableEq
abbrev C3.enc (e : C3) : List Value := [.int .i64 e.f, .int .i64 e.t, .int .i64 e.a]
theorem C3.enc_length (e : C3) : e.enc.length = 3 := rfl
theorem C3.ones (e : C3) : Fw.ones e.enc = true := rfl
def C3.row (e : C3) : List Int := [e.f, e.t, e.a]
theorem C3.enc_row (e : C3) : e.enc = ints e.row := rfl
theorem C3.row_inj {x y : C3} : x.row = y.row → x = y := by
  intro h
  obtain ⟨a, b, c⟩ := x
  obtain ⟨d, e, f⟩ := y
  simp [C3.row] at h
  obtain ⟨rfl, rfl, rfl⟩ := h
  rfl
/-- A settlement; a message. -/
structure SV where
  ro : Int
  ph : Int
  bk : Int
  bn : Int
  tr : List C3
  vo : List Int
  deriving DecidableEq
structure MV where
  fr : Int
  to : Int
  ki : Int
  nu : Int
  bo : List Int
  deriving DecidableEq
/-- The same with the places of their rows. -/
structure LS where
  ro : Int
  ph : Int
  bk : Int
  bn : Int
  T : Sl C3
  V : Sl Int
def LS.enc (s : LS) : List Value := [.int .i64 s.ro, .int .i64 s.ph, .int .i64 s.bk, .int .i64 s.bn, .slice s.T.a s.T.xs.length s.T.c, .slice s.V.a s.V.xs.length s.V.c]
def LS.val (s : LS) : SV := ⟨s.ro, s.ph, s.bk, s.bn, s.T.xs, s.V.xs⟩
theorem LS.enc_length (s : LS) : s.enc.length = 6 := rfl
theorem LS.ones (s : LS) : Fw.ones s.enc = true := rfl
structure LsV (M : View) (s : LS) : Prop where
  t : SlA M C3.enc 3 s.T.a s.T.xs s.T.b s.T.o
  v : SlA M (eK .i64) 1 s.V.a s.V.xs s.V.b s.V.o
  lt : s.T.xs.length ≤ 100000
  lv : s.V.xs.length ≤ 100000
structure LM where
  fr : Int
  to : Int
  ki : Int
  nu : Int
  B : Sl Int
def LM.enc (m : LM) : List Value := [.int .i64 m.fr, .int .i64 m.to, .int .i64 m.ki, .int .i64 m.nu, .slice m.B.a m.B.xs.length m.B.c]
def LM.val (m : LM) : MV := ⟨m.fr, m.to, m.ki, m.nu, m.B.xs⟩
theorem LM.enc_length (m : LM) : m.enc.length = 5 := rfl
theorem LM.ones (m : LM) : Fw.ones m.enc = true := rfl
structure LmV (M : View) (m : LM) : Prop where
  b : SlA M (eK .u8) 1 m.B.a m.B.xs m.B.b m.B.o
  by_ : ∀ x ∈ m.B.xs, 0 ≤ x ∧ x ≤ 255
  l : m.B.xs.length ≤ 100000
theorem LsV.mono {M N : View} {s : LS} (h : LsV M s) (hM : View.le M N) : LsV N s := ⟨h.t.mono hM, h.v.mono hM, h.lt, h.lv⟩
theorem LmV.mono {M N : View} {m : LM} (h : LmV M m) (hM : View.le M N) : LmV N m := ⟨h.b.mono hM, h.by_, h.l⟩
/-- Ranges, transfers, votes, settlements, messages: valid? -/
def inn (x lo hi : Int) : Bool := decide (lo ≤ x ∧ x ≤ hi)
def tfB (n : Int) (t : C3) : Bool := inn t.f 0 (n - 1) && inn t.t 0 (n - 1) && !decide (t.f = t.t) && inn t.a 1 1125899906842624
def trB (n : Int) (l : List C3) : Bool := decide (l.length ≤ 300) && l.all (tfB n)
def voB (ph bn : Int) (vo : List Int) : Bool :=
  if ph = 0 then decide (vo.length = 0)
  else if (vo.length : Int) ≠ bn ∨ vo.getD 0 0 ≠ 1 ∨ vo.any (fun v => !inn v 0 1) = true then false
  else (vo.any fun v => decide (v = 0)) == decide (ph < 4)
def svB (s : SV) : Bool := inn s.ro 0 1073741824 && (inn s.bn 1 8 && (inn s.bk 0 (s.bn - 1) && (trB s.bn s.tr && (inn s.ph 0 5 && (if s.bk = 0 then voB s.ph s.bn s.vo else decide (s.vo.length = 0 ∧ s.ph ≠ 2 ∧ s.ph ≠ 3))))))
def mvB (m : MV) : Bool := inn m.fr 0 1000 && (inn m.to 0 1000 && (inn m.ki 0 1000 && (inn m.nu 0 1073741824 && decide (m.bo.length ≤ 16384))))
theorem inn_iff {x lo hi : Int} : inn x lo hi = true ↔ lo ≤ x ∧ x ≤ hi := by unfold inn; exact decide_eq_true_iff
theorem inn_false {x lo hi : Int} : inn x lo hi = false ↔ ¬ (lo ≤ x ∧ x ≤ hi) := by unfold inn; exact decide_eq_false_iff_not
end Go.Proofs.Ytagmoecojmlogaa
namespace Go.Proofs.Ytagmoecojmlogaa
set_option maxRecDepth 20000
set_option linter.unusedSimpArgs false
set_option linter.unusedVariables false
open Go Go.Fw
attribute [local irreducible] CW OL OD FX Stp FnC FnV FnA Ret
set_option maxHeartbeats 800000
theorem cloneTr_spec {w : World} {M : View} (hM : View.le M (View.of w)) {xs : List C3} {n : Nat} (e1 : xs.length = n) {a : Option Addr} {b o c : Nat} (s : SlA M C3.enc 3 a xs b o) (hl : xs.length ≤ 4294967296) :
    FnC Try.prog 41 [.slice a n c] w (RowRes C3.enc 3 61 xs) := by
  subst e1
  refine enterF (M := M) Try.func41 rfl rfl rfl rfl hM ?_
  refine cw_none 61 ?_
  repeat' first
    | apply cw_seq
    | (refine cw_region_id 0 ?_; (apply ol_as; rfl; rfl); (apply ol_nil))
    | (refine cw_region_id 1 ?_; (apply ol_mv; rfl; rfl); (apply ol_val; rfl; apply stp_cmp; apply s_eqnil; rfl; exact el_22; all_goals (intro _; try (exfalso; (first | (rename_i hh; exact hh rfl) | omega)))); all_goals (apply ol_nil))
    | (refine cw_region_id 2 ?_; (apply ol_as; rfl; rfl); (apply ol_nil))
    | (refine cw_region_id 3 ?_; (apply ol_val; rfl; apply s_buildSl; rfl; exact el_22; exact sz_61; exact zb_61; exact qN; rfl; rfl; (exact Nat.le_of_ble_eq_true rfl); exact qN; (focus ((repeat (first | exact Fil.nil | (apply Fil.one; rfl; rfl; (repeat (first | exact SetAt.zero | apply SetAt.succ))) | (apply Fil.agg; rfl; rfl; (repeat (first | exact SetN.nil | (apply SetN.cons; (repeat (first | exact SetAt.zero | apply SetAt.succ))))); (exact Nat.le_of_ble_eq_true rfl)))); done)); intro _); (apply ol_mv; rfl; rfl); (apply ol_val; rfl; first | (apply s_append_e; rfl; rfl; exact qN; exact el_22; exact sz_61; exact zb_61; rfl; exact by_61; (first | exact (fun _ => rfl) | (intro _; exact s.at_ (by omega))); (first | exact qQ | (apply RdN.view; exact SlA.all C3.enc_length s)); (first | rfl | exact ones_flat C3.ones _); exact qO; exact qO; intro _ _ _ _) | (apply s_append_r; rfl; rfl; exact qN; (first | rfl | exact (List.append_nil _).symm); exact el_22; exact sz_61; exact zb_61; rfl; exact by_61; (first | exact SO.nil _ | assumption | (exact ⟨by simp, by simp, Nat.le_refl _, by simp⟩)); (first | exact (fun _ => rfl) | (intro _; exact s.at_ (by omega))); (first | exact qQ | (apply RdN.view; exact SlA.all C3.enc_length s)); (first | rfl | exact ones_flat C3.ones _); exact qO; exact qO; intro _ _ _ _) | (apply s_append_b; rfl; rfl; exact qN; (first | rfl | exact (List.append_nil _).symm); exact el_22; exact sz_61; exact zb_61; rfl; exact by_61; (first | exact SO.nil _ | assumption | (exact ⟨by simp, by simp, Nat.le_refl _, by simp⟩)); (first | exact (fun _ => rfl) | (intro _; exact s.at_ (by omega))); (first | exact qQ | (apply RdN.view; exact SlA.all C3.enc_length s)); (first | rfl | exact ones_flat C3.ones _); exact qO; exact qO; intro _ _ _ _) | (apply s_append_n; rfl; rfl; exact qN; exact el_22; exact sz_61; exact zb_61; rfl; exact by_61; (first | exact (fun _ => rfl) | (intro _; exact s.at_ (by omega))); (first | exact qQ | (apply RdN.view; exact SlA.all C3.enc_length s)); (first | rfl | exact ones_flat C3.ones _); exact qO; exact qO; intro _ _ _ _)); (apply ol_as; rfl; rfl); (apply ol_nil))
    | (apply cw_cond_true; rfl; exact qA)
    | (apply cw_cond_false; rfl; exact qA)
    | apply cw_skip
    | apply cw_ret
    | apply cw_block
    | apply cw_exit
  · rename_i h
    have hx : xs = [] := by
      cases xs with
      | nil => rfl
      | cons x xs => have := s.at_ (by simp); rw [this] at h; cases h
    subst hx
    refine ends [⟨none, [], 61⟩] (by (repeat (first | exact RVal.nil | (apply RVal.tmp; rfl) | (apply RVal.cellN; rfl; rfl; (fail); apply RdN.own; (focus ((repeat (first | exact Has.here | apply Has.there)); done)); (focus ((repeat (first | exact GetN.nil | (apply GetN.cons; rfl))); done))) | (apply RVal.cell1; rfl; rfl; apply RdN.own; (focus ((repeat (first | exact Has.here | apply Has.there)); done)); exact qC)))) (by exact qK) ?_
    exact ⟨none, none, 0, [], rfl, rfl, SO.nil 3⟩
  · rename_i bb r sp cap so
    refine ends [⟨r, flat C3.enc xs ++ sp, 61⟩] (by (repeat (first | exact RVal.nil | (apply RVal.tmp; rfl) | (apply RVal.cellN; rfl; rfl; (fail); apply RdN.own; (focus ((repeat (first | exact Has.here | apply Has.there)); done)); (focus ((repeat (first | exact GetN.nil | (apply GetN.cons; rfl))); done))) | (apply RVal.cell1; rfl; rfl; apply RdN.own; (focus ((repeat (first | exact Has.here | apply Has.there)); done)); exact qC)))) (by exact qK) ?_
    exact ⟨r, none, cap, sp, rfl, rfl, so⟩
theorem cloneInts_spec {w : World} {M : View} (hM : View.le M (View.of w)) {xs : List Int} {n : Nat} (e1 : xs.length = n) {a : Option Addr} {b o c : Nat} (s : SlA M (eK .i64) 1 a xs b o) (hl : xs.length ≤ 4294967296) :
    FnC Try.prog 58 [.slice a n c] w (RowRes (eK .i64) 1 3 xs) := by
  subst e1
  refine enterF (M := M) Try.func58 rfl rfl rfl rfl hM ?_
  refine cw_none 3 ?_
  repeat' first
    | apply cw_seq
    | (refine cw_region_id 0 ?_; (apply ol_as; rfl; rfl); (apply ol_nil))
    | (refine cw_region_id 1 ?_; (apply ol_mv; rfl; rfl); (apply ol_val; rfl; apply stp_cmp; apply s_eqnil; rfl; exact el_23; all_goals (intro _; try (exfalso; (first | (rename_i hh; exact hh rfl) | omega)))); all_goals (apply ol_nil))
    | (refine cw_region_id 2 ?_; (apply ol_as; rfl; rfl); (apply ol_nil))
    | (refine cw_region_id 3 ?_; (apply ol_val; rfl; apply s_buildSl; rfl; exact el_23; exact sz_3; exact zb_3; exact qN; rfl; rfl; (exact Nat.le_of_ble_eq_true rfl); exact qN; exact qR; intro _); (apply ol_mv; rfl; rfl); (apply ol_val; rfl; first | (apply s_append_e; rfl; rfl; exact qN; exact el_23; exact sz_3; exact zb_3; rfl; exact by_3; (first | exact (fun _ => rfl) | (intro _; exact s.at_ (by omega))); (first | exact qQ | (apply RdN.view; exact SlA.all (eK_length .i64) s)); (first | rfl | exact ones_flat (eK_ones .i64) _); exact qO; exact qO; intro _ _ _ _) | (apply s_append_r; rfl; rfl; exact qN; (first | rfl | exact (List.append_nil _).symm); exact el_23; exact sz_3; exact zb_3; rfl; exact by_3; (first | exact SO.nil _ | assumption | (exact ⟨by simp, by simp, Nat.le_refl _, by simp⟩)); (first | exact (fun _ => rfl) | (intro _; exact s.at_ (by omega))); (first | exact qQ | (apply RdN.view; exact SlA.all (eK_length .i64) s)); (first | rfl | exact ones_flat (eK_ones .i64) _); exact qO; exact qO; intro _ _ _ _) | (apply s_append_b; rfl; rfl; exact qN; (first | rfl | exact (List.append_nil _).symm); exact el_23; exact sz_3; exact zb_3; rfl; exact by_3; (first | exact SO.nil _ | assumption | (exact ⟨by simp, by simp, Nat.le_refl _, by simp⟩)); (first | exact (fun _ => rfl) | (intro _; exact s.at_ (by omega))); (first | exact qQ | (apply RdN.view; exact SlA.all (eK_length .i64) s)); (first | rfl | exact ones_flat (eK_ones .i64) _); exact qO; exact qO; intro _ _ _ _) | (apply s_append_n; rfl; rfl; exact qN; exact el_23; exact sz_3; exact zb_3; rfl; exact by_3; (first | exact (fun _ => rfl) | (intro _; exact s.at_ (by omega))); (first | exact qQ | (apply RdN.view; exact SlA.all (eK_length .i64) s)); (first | rfl | exact ones_flat (eK_ones .i64) _); exact qO; exact qO; intro _ _ _ _)); (apply ol_as; rfl; rfl); (apply ol_nil))
    | (apply cw_cond_true; rfl; exact qA)
    | (apply cw_cond_false; rfl; exact qA)
    | apply cw_skip
    | apply cw_ret
    | apply cw_block
    | apply cw_exit
  · rename_i h
    have hx : xs = [] := by
      cases xs with
      | nil => rfl
      | cons x xs => have := s.at_ (by simp); rw [this] at h; cases h
    subst hx
    refine ends [⟨none, [], 3⟩] (by (repeat (first | exact RVal.nil | (apply RVal.tmp; rfl) | (apply RVal.cellN; rfl; rfl; (fail); apply RdN.own; (focus ((repeat (first | exact Has.here | apply Has.there)); done)); (focus ((repeat (first | exact GetN.nil | (apply GetN.cons; rfl))); done))) | (apply RVal.cell1; rfl; rfl; apply RdN.own; (focus ((repeat (first | exact Has.here | apply Has.there)); done)); exact qC)))) (by exact qK) ?_
    exact ⟨none, none, 0, [], rfl, rfl, SO.nil 1⟩
  · rename_i bb r sp cap so
    refine ends [⟨r, flat (eK .i64) xs ++ sp, 3⟩] (by (repeat (first | exact RVal.nil | (apply RVal.tmp; rfl) | (apply RVal.cellN; rfl; rfl; (fail); apply RdN.own; (focus ((repeat (first | exact Has.here | apply Has.there)); done)); (focus ((repeat (first | exact GetN.nil | (apply GetN.cons; rfl))); done))) | (apply RVal.cell1; rfl; rfl; apply RdN.own; (focus ((repeat (first | exact Has.here | apply Has.there)); done)); exact qC)))) (by exact qK) ?_
    exact ⟨r, none, cap, sp, rfl, rfl, so⟩
theorem cloneS_spec {w : World} {M : View} (hM : View.le M (View.of w)) {xs : List Int} {n : Nat} (e1 : xs.length = n) {a : Option Addr} {b o c : Nat} (s : SlA M (eK .u8) 1 a xs b o) (hl : xs.length ≤ 4294967296) :
    FnC Try.prog 67 [.slice a n c] w (RowRes (eK .u8) 1 5 xs) := by
  subst e1
  refine enterF (M := M) Try.func67 rfl rfl rfl rfl hM ?_
  refine cw_none 5 ?_
  repeat' first
    | apply cw_seq
    | (refine cw_region_id 0 ?_; (apply ol_as; rfl; rfl); (apply ol_nil))
    | (refine cw_region_id 1 ?_; (apply ol_mv; rfl; rfl); (apply ol_val; rfl; apply stp_cmp; apply s_eqnil; rfl; exact el_26; all_goals (intro _; try (exfalso; (first | (rename_i hh; exact hh rfl) | omega)))); all_goals (apply ol_nil))
    | (refine cw_region_id 2 ?_; (apply ol_as; rfl; rfl); (apply ol_nil))
    | (refine cw_region_id 3 ?_; (apply ol_val; rfl; apply s_buildSl; rfl; exact el_26; exact sz_5; exact zb_5; exact qN; rfl; rfl; (exact Nat.le_of_ble_eq_true rfl); exact qN; exact qR; intro _); (apply ol_mv; rfl; rfl); (apply ol_val; rfl; first | (apply s_append_e; rfl; rfl; exact qN; exact el_26; exact sz_5; exact zb_5; rfl; exact by_5; (first | exact (fun _ => rfl) | (intro _; exact s.at_ (by omega))); (first | exact qQ | (apply RdN.view; exact SlA.all (eK_length .u8) s)); (first | rfl | exact ones_flat (eK_ones .u8) _); exact qO; exact qO; intro _ _ _ _) | (apply s_append_r; rfl; rfl; exact qN; (first | rfl | exact (List.append_nil _).symm); exact el_26; exact sz_5; exact zb_5; rfl; exact by_5; (first | exact SO.nil _ | assumption | (exact ⟨by simp, by simp, Nat.le_refl _, by simp⟩)); (first | exact (fun _ => rfl) | (intro _; exact s.at_ (by omega))); (first | exact qQ | (apply RdN.view; exact SlA.all (eK_length .u8) s)); (first | rfl | exact ones_flat (eK_ones .u8) _); exact qO; exact qO; intro _ _ _ _) | (apply s_append_b; rfl; rfl; exact qN; (first | rfl | exact (List.append_nil _).symm); exact el_26; exact sz_5; exact zb_5; rfl; exact by_5; (first | exact SO.nil _ | assumption | (exact ⟨by simp, by simp, Nat.le_refl _, by simp⟩)); (first | exact (fun _ => rfl) | (intro _; exact s.at_ (by omega))); (first | exact qQ | (apply RdN.view; exact SlA.all (eK_length .u8) s)); (first | rfl | exact ones_flat (eK_ones .u8) _); exact qO; exact qO; intro _ _ _ _) | (apply s_append_n; rfl; rfl; exact qN; exact el_26; exact sz_5; exact zb_5; rfl; exact by_5; (first | exact (fun _ => rfl) | (intro _; exact s.at_ (by omega))); (first | exact qQ | (apply RdN.view; exact SlA.all (eK_length .u8) s)); (first | rfl | exact ones_flat (eK_ones .u8) _); exact qO; exact qO; intro _ _ _ _)); (apply ol_as; rfl; rfl); (apply ol_nil))
    | (apply cw_cond_true; rfl; exact qA)
    | (apply cw_cond_false; rfl; exact qA)
    | apply cw_skip
    | apply cw_ret
    | apply cw_block
    | apply cw_exit
  · rename_i h
    have hx : xs = [] := by
      cases xs with
      | nil => rfl
      | cons x xs => have := s.at_ (by simp); rw [this] at h; cases h
    subst hx
    refine ends [⟨none, [], 5⟩] (by (repeat (first | exact RVal.nil | (apply RVal.tmp; rfl) | (apply RVal.cellN; rfl; rfl; (fail); apply RdN.own; (focus ((repeat (first | exact Has.here | apply Has.there)); done)); (focus ((repeat (first | exact GetN.nil | (apply GetN.cons; rfl))); done))) | (apply RVal.cell1; rfl; rfl; apply RdN.own; (focus ((repeat (first | exact Has.here | apply Has.there)); done)); exact qC)))) (by exact qK) ?_
    exact ⟨none, none, 0, [], rfl, rfl, SO.nil 1⟩
  · rename_i bb r sp cap so
    refine ends [⟨r, flat (eK .u8) xs ++ sp, 5⟩] (by (repeat (first | exact RVal.nil | (apply RVal.tmp; rfl) | (apply RVal.cellN; rfl; rfl; (fail); apply RdN.own; (focus ((repeat (first | exact Has.here | apply Has.there)); done)); (focus ((repeat (first | exact GetN.nil | (apply GetN.cons; rfl))); done))) | (apply RVal.cell1; rfl; rfl; apply RdN.own; (focus ((repeat (first | exact Has.here | apply Has.there)); done)); exact qC)))) (by exact qK) ?_
    exact ⟨r, none, cap, sp, rfl, rfl, so⟩
theorem anyTrIdx_spec {M : View} {w : World} (hM : View.le M (View.of w)) {f : Nat} {cap : List Value} {p : C3 → Bool} (hg : goFunc Try.prog f = true) (hp : ∀ (w' : World) (x : C3), View.le M (View.of w') → FnC Try.prog f ([.agg x.enc.toArray] ++ cap) w' (fun v _ => v = .bool (p x)))
    {xs : List C3} {i : Int} (hi : idxI p xs = i) {n : Nat} (hn : xs.length = n) {a : Option Addr} {b o c : Nat} (s : SlA M C3.enc 3 a xs b o) (hl : xs.length ≤ 4611686018427387904) :
    FnC Try.prog 78 [.slice a n c, .func (.func f) #[] cap.toArray] w (fun v _ => v = .int .i64 i) := by
  subst hi hn
  refine enterF (M := M) Try.func78 rfl rfl rfl rfl hM ?_
  repeat' first
    | apply cw_seq
    | (refine cw_region_id 0 ?_; (apply ol_as; rfl; rfl); (apply ol_nil))
    | (refine cw_region_id 1 ?_; (apply ol_mv; rfl; rfl); (apply ol_val; rfl; apply stp_pur; apply s_len; rfl; exact el_22); (apply ol_mv; rfl; rfl); (apply ol_nil))
    | (apply cw_cond_true; rfl; exact qA)
    | (apply cw_cond_false; rfl; exact qA)
    | apply cw_skip
    | apply cw_ret
    | apply cw_block
    | apply cw_exit
  refine cw_loopK (σ := Nat) [0, 1, 7] (by (repeat (first | exact Keep.nil | (apply Keep.cons; rfl)))) (fun k => [(8, .int .i64 k)]) (fun _ => M) (fun _ => []) (fun k => k ≤ xs.length ∧ (xs.take k).any p = false) (fun k => xs.length - k) 0 (by (repeat (first | exact trivial | refine And.intro rfl ?_))) (View.le.refl _) (by exact qK) ⟨by omega, by simp⟩ ?_
  intro k ⟨hk, ht⟩
  by_cases hk' : k < xs.length
  · have hsp : xs = xs.take k ++ xs[k] :: xs.drop (k + 1) := by simp
    cases hpx : p xs[k] with
    | true =>
      repeat' first
        | apply cw_seq
        | (refine cw_region_id 2 ?_; (apply ol_val; rfl; apply stp_cmp; apply s_lss; rfl; rfl; all_goals (intro _; try (exfalso; (first | (rename_i hh; exact hh rfl) | omega)))); all_goals (apply ol_nil))
        | (refine cw_region_id 3 ?_; (apply ol_mv; rfl; rfl); (apply ol_as; rfl; rfl); (apply ol_nil))
        | (refine cw_region_id 4 ?_; (apply ol_mv; rfl; rfl); (apply ol_mv; rfl; rfl); (apply ol_mv; rfl; rfl); (apply ol_val; rfl; apply stp_pur; first | (apply s_indexK; rfl; rfl; exact el_22; exact sz_61; (first | rfl | exact s.at_ (by omega)); omega) | (apply s_indexO; rfl; rfl; exact el_22; exact sz_61; (first | rfl | exact s.at_ (by omega)); omega)); (apply ol_ldN; rfl; rfl; rfl; exact sz_61; (first | exact qQ | (apply RdN.view; exact s.cells _ (by omega)))); (apply ol_val; rfl; (apply s_clov (fs := []); rfl; rfl; exact hg; (intro w' hw'; exact hp w' xs[k] hw'.le); rw [hpx])); all_goals (apply ol_nil))
        | (refine cw_region_id 5 ?_; (apply ol_mv; rfl; rfl); (apply ol_as; rfl; rfl); (apply ol_nil))
        | (refine cw_region_id 6 ?_; (apply ol_val; rfl; apply stp_pur; apply s_add64; rfl; rfl; omega); (apply ol_mv; rfl; rfl); (apply ol_nil))
        | (refine cw_region_id 7 ?_; (apply ol_as; rfl; rfl); (apply ol_nil))
        | (apply cw_cond_true; rfl; exact qA)
        | (apply cw_cond_false; rfl; exact qA)
        | apply cw_skip
        | apply cw_ret
        | apply cw_block
        | apply cw_exit
      refine ends [] (RVal.tmp rfl RVal.nil) Pick.nil ?_
      rw [idxI_first hk' ht hpx]
      rfl
    | false =>
      repeat' first
        | apply cw_seq
        | (refine cw_region_id 2 ?_; (apply ol_val; rfl; apply stp_cmp; apply s_lss; rfl; rfl; all_goals (intro _; try (exfalso; (first | (rename_i hh; exact hh rfl) | omega)))); all_goals (apply ol_nil))
        | (refine cw_region_id 3 ?_; (apply ol_mv; rfl; rfl); (apply ol_as; rfl; rfl); (apply ol_nil))
        | (refine cw_region_id 4 ?_; (apply ol_mv; rfl; rfl); (apply ol_mv; rfl; rfl); (apply ol_mv; rfl; rfl); (apply ol_val; rfl; apply stp_pur; first | (apply s_indexK; rfl; rfl; exact el_22; exact sz_61; (first | rfl | exact s.at_ (by omega)); omega) | (apply s_indexO; rfl; rfl; exact el_22; exact sz_61; (first | rfl | exact s.at_ (by omega)); omega)); (apply ol_ldN; rfl; rfl; rfl; exact sz_61; (first | exact qQ | (apply RdN.view; exact s.cells _ (by omega)))); (apply ol_val; rfl; (apply s_clov (fs := []); rfl; rfl; exact hg; (intro w' hw'; exact hp w' xs[k] hw'.le); rw [hpx])); all_goals (apply ol_nil))
        | (refine cw_region_id 5 ?_; (apply ol_mv; rfl; rfl); (apply ol_as; rfl; rfl); (apply ol_nil))
        | (refine cw_region_id 6 ?_; (apply ol_val; rfl; apply stp_pur; apply s_add64; rfl; rfl; omega); (apply ol_mv; rfl; rfl); (apply ol_nil))
        | (refine cw_region_id 7 ?_; (apply ol_as; rfl; rfl); (apply ol_nil))
        | (apply cw_cond_true; rfl; exact qA)
        | (apply cw_cond_false; rfl; exact qA)
        | apply cw_skip
        | apply cw_ret
        | apply cw_block
        | apply cw_exit
      refine ⟨k + 1, ⟨by (repeat (first | exact trivial | refine And.intro rfl ?_)), View.le.refl _, by exact qK, ⟨by omega, ?_⟩, by omega⟩⟩
      rw [List.take_succ_eq_append_getElem hk', List.any_append, ht]
      simp [hpx]
  · have ek : k = xs.length := by omega
    repeat' first
      | apply cw_seq
      | (refine cw_region_id 2 ?_; (apply ol_val; rfl; apply stp_cmp; apply s_lss; rfl; rfl; all_goals (intro _; try (exfalso; (first | (rename_i hh; exact hh rfl) | omega)))); all_goals (apply ol_nil))
      | (refine cw_region_id 3 ?_; (apply ol_mv; rfl; rfl); (apply ol_as; rfl; rfl); (apply ol_nil))
      | (refine cw_region_id 4 ?_; (apply ol_mv; rfl; rfl); (apply ol_mv; rfl; rfl); (apply ol_mv; rfl; rfl); (apply ol_val; rfl; apply stp_pur; first | (apply s_indexK; rfl; rfl; exact el_22; exact sz_61; (first | rfl); omega) | (apply s_indexO; rfl; rfl; exact el_22; exact sz_61; (first | rfl); omega)); (apply ol_ldN; rfl; rfl; rfl; exact sz_61; exact qQ))
      | (refine cw_region_id 5 ?_; (apply ol_mv; rfl; rfl); (apply ol_as; rfl; rfl); (apply ol_nil))
      | (refine cw_region_id 6 ?_; (apply ol_val; rfl; apply stp_pur; apply s_add64; rfl; rfl; omega); (apply ol_mv; rfl; rfl); (apply ol_nil))
      | (refine cw_region_id 7 ?_; (apply ol_as; rfl; rfl); (apply ol_nil))
      | (apply cw_cond_true; rfl; exact qA)
      | (apply cw_cond_false; rfl; exact qA)
      | apply cw_skip
      | apply cw_ret
      | apply cw_block
      | apply cw_exit
    refine ends [] (RVal.tmp rfl RVal.nil) Pick.nil ?_
    rw [ek, List.take_length] at ht
    simp [tup, idxI, ht]
theorem anyTr_spec {M : View} {w : World} (hM : View.le M (View.of w)) {f : Nat} {cap : List Value} {p : C3 → Bool} (hg : goFunc Try.prog f = true) (hp : ∀ (w' : World) (x : C3), View.le M (View.of w') → FnC Try.prog f ([.agg x.enc.toArray] ++ cap) w' (fun v _ => v = .bool (p x)))
    {xs : List C3} {r : Bool} (hr : xs.any p = r) {n : Nat} (hn : xs.length = n) {a : Option Addr} {b o c : Nat} (s : SlA M C3.enc 3 a xs b o) (hl : xs.length ≤ 4611686018427387904) :
    FnC Try.prog 69 [.slice a n c, .func (.func f) #[] cap.toArray] w (fun v _ => v = .bool r) := by
  subst hr
  refine enterF (M := M) Try.func69 rfl rfl rfl rfl hM ?_
  have hi := idxI_any (p := p) (xs := xs)
  cases hany : xs.any p with
  | true =>
    rw [hany] at hi
    have hi : 0 ≤ idxI p xs := hi.2 rfl
    repeat' first
      | apply cw_seq
      | (refine cw_region_id 0 ?_; (apply ol_as; rfl; rfl); (apply ol_nil))
      | (refine cw_region_id 1 ?_; (apply ol_mv; rfl; rfl); (apply ol_mv; rfl; rfl); (apply ol_val; rfl; apply s_callv; rfl; exact gf_78; (intro w' hw'; exact anyTrIdx_spec (View.le.refl (View.of w')) (p := p) hg (fun w'' x h => hp w'' x (hw'.le.trans h)) rfl hn (s.mono hw'.le) hl)); (apply ol_val; rfl; apply stp_cmp; apply s_geq; rfl; rfl; all_goals (intro _; try (exfalso; (first | (rename_i hh; exact hh rfl) | omega)))); all_goals (apply ol_as; rfl; rfl); all_goals (apply ol_nil))
      | (apply cw_cond_true; rfl; exact qA)
      | (apply cw_cond_false; rfl; exact qA)
      | apply cw_skip
      | apply cw_ret
      | apply cw_block
      | apply cw_exit
    refine ends [] (RVal.tmp rfl RVal.nil) Pick.nil ?_
    rfl
  | false =>
    rw [hany] at hi
    have hi : ¬ 0 ≤ idxI p xs := fun h => by have := hi.1 h; cases this
    repeat' first
      | apply cw_seq
      | (refine cw_region_id 0 ?_; (apply ol_as; rfl; rfl); (apply ol_nil))
      | (refine cw_region_id 1 ?_; (apply ol_mv; rfl; rfl); (apply ol_mv; rfl; rfl); (apply ol_val; rfl; apply s_callv; rfl; exact gf_78; (intro w' hw'; exact anyTrIdx_spec (View.le.refl (View.of w')) (p := p) hg (fun w'' x h => hp w'' x (hw'.le.trans h)) rfl hn (s.mono hw'.le) hl)); (apply ol_val; rfl; apply stp_cmp; apply s_geq; rfl; rfl; all_goals (intro _; try (exfalso; (first | (rename_i hh; exact hh rfl) | omega)))); all_goals (apply ol_as; rfl; rfl); all_goals (apply ol_nil))
      | (apply cw_cond_true; rfl; exact qA)
      | (apply cw_cond_false; rfl; exact qA)
      | apply cw_skip
      | apply cw_ret
      | apply cw_block
      | apply cw_exit
    refine ends [] (RVal.tmp rfl RVal.nil) Pick.nil ?_
    rfl
theorem anyIntsIdx_spec {M : View} {w : World} (hM : View.le M (View.of w)) {f : Nat} {cap : List Value} {p : Int → Bool} (hg : goFunc Try.prog f = true) (hp : ∀ (w' : World) (x : Int), View.le M (View.of w') → FnC Try.prog f ([.int .i64 x] ++ cap) w' (fun v _ => v = .bool (p x)))
    {xs : List Int} {i : Int} (hi : idxI p xs = i) {n : Nat} (hn : xs.length = n) {a : Option Addr} {b o c : Nat} (s : SlA M (eK .i64) 1 a xs b o) (hl : xs.length ≤ 4611686018427387904) :
    FnC Try.prog 79 [.slice a n c, .func (.func f) #[] cap.toArray] w (fun v _ => v = .int .i64 i) := by
  subst hi hn
  refine enterF (M := M) Try.func79 rfl rfl rfl rfl hM ?_
  repeat' first
    | apply cw_seq
    | (refine cw_region_id 0 ?_; (apply ol_as; rfl; rfl); (apply ol_nil))
    | (refine cw_region_id 1 ?_; (apply ol_mv; rfl; rfl); (apply ol_val; rfl; apply stp_pur; apply s_len; rfl; exact el_23); (apply ol_mv; rfl; rfl); (apply ol_nil))
    | (apply cw_cond_true; rfl; exact qA)
    | (apply cw_cond_false; rfl; exact qA)
    | apply cw_skip
    | apply cw_ret
    | apply cw_block
    | apply cw_exit
  refine cw_loopK (σ := Nat) [0, 1, 7] (by (repeat (first | exact Keep.nil | (apply Keep.cons; rfl)))) (fun k => [(8, .int .i64 k)]) (fun _ => M) (fun _ => []) (fun k => k ≤ xs.length ∧ (xs.take k).any p = false) (fun k => xs.length - k) 0 (by (repeat (first | exact trivial | refine And.intro rfl ?_))) (View.le.refl _) (by exact qK) ⟨by omega, by simp⟩ ?_
  intro k ⟨hk, ht⟩
  by_cases hk' : k < xs.length
  · have hsp : xs = xs.take k ++ xs[k] :: xs.drop (k + 1) := by simp
    cases hpx : p xs[k] with
    | true =>
      repeat' first
        | apply cw_seq
        | (refine cw_region_id 2 ?_; (apply ol_val; rfl; apply stp_cmp; apply s_lss; rfl; rfl; all_goals (intro _; try (exfalso; (first | (rename_i hh; exact hh rfl) | omega)))); all_goals (apply ol_nil))
        | (refine cw_region_id 3 ?_; (apply ol_mv; rfl; rfl); (apply ol_as; rfl; rfl); (apply ol_nil))
        | (refine cw_region_id 4 ?_; (apply ol_mv; rfl; rfl); (apply ol_mv; rfl; rfl); (apply ol_mv; rfl; rfl); (apply ol_val; rfl; apply stp_pur; first | (apply s_indexK; rfl; rfl; exact el_23; exact sz_3; (first | rfl | exact s.at_ (by omega)); omega) | (apply s_indexO; rfl; rfl; exact el_23; exact sz_3; (first | rfl | exact s.at_ (by omega)); omega)); (apply ol_ld; rfl; rfl; rfl; (first | exact qP | (apply RdN.view; exact s.cells _ (by omega)))); (apply ol_val; rfl; (apply s_clov (fs := []); rfl; rfl; exact hg; (intro w' hw'; exact hp w' xs[k] hw'.le); rw [hpx])); all_goals (apply ol_nil))
        | (refine cw_region_id 5 ?_; (apply ol_mv; rfl; rfl); (apply ol_as; rfl; rfl); (apply ol_nil))
        | (refine cw_region_id 6 ?_; (apply ol_val; rfl; apply stp_pur; apply s_add64; rfl; rfl; omega); (apply ol_mv; rfl; rfl); (apply ol_nil))
        | (refine cw_region_id 7 ?_; (apply ol_as; rfl; rfl); (apply ol_nil))
        | (apply cw_cond_true; rfl; exact qA)
        | (apply cw_cond_false; rfl; exact qA)
        | apply cw_skip
        | apply cw_ret
        | apply cw_block
        | apply cw_exit
      refine ends [] (RVal.tmp rfl RVal.nil) Pick.nil ?_
      rw [idxI_first hk' ht hpx]
      rfl
    | false =>
      repeat' first
        | apply cw_seq
        | (refine cw_region_id 2 ?_; (apply ol_val; rfl; apply stp_cmp; apply s_lss; rfl; rfl; all_goals (intro _; try (exfalso; (first | (rename_i hh; exact hh rfl) | omega)))); all_goals (apply ol_nil))
        | (refine cw_region_id 3 ?_; (apply ol_mv; rfl; rfl); (apply ol_as; rfl; rfl); (apply ol_nil))
        | (refine cw_region_id 4 ?_; (apply ol_mv; rfl; rfl); (apply ol_mv; rfl; rfl); (apply ol_mv; rfl; rfl); (apply ol_val; rfl; apply stp_pur; first | (apply s_indexK; rfl; rfl; exact el_23; exact sz_3; (first | rfl | exact s.at_ (by omega)); omega) | (apply s_indexO; rfl; rfl; exact el_23; exact sz_3; (first | rfl | exact s.at_ (by omega)); omega)); (apply ol_ld; rfl; rfl; rfl; (first | exact qP | (apply RdN.view; exact s.cells _ (by omega)))); (apply ol_val; rfl; (apply s_clov (fs := []); rfl; rfl; exact hg; (intro w' hw'; exact hp w' xs[k] hw'.le); rw [hpx])); all_goals (apply ol_nil))
        | (refine cw_region_id 5 ?_; (apply ol_mv; rfl; rfl); (apply ol_as; rfl; rfl); (apply ol_nil))
        | (refine cw_region_id 6 ?_; (apply ol_val; rfl; apply stp_pur; apply s_add64; rfl; rfl; omega); (apply ol_mv; rfl; rfl); (apply ol_nil))
        | (refine cw_region_id 7 ?_; (apply ol_as; rfl; rfl); (apply ol_nil))
        | (apply cw_cond_true; rfl; exact qA)
        | (apply cw_cond_false; rfl; exact qA)
        | apply cw_skip
        | apply cw_ret
        | apply cw_block
        | apply cw_exit
      refine ⟨k + 1, ⟨by (repeat (first | exact trivial | refine And.intro rfl ?_)), View.le.refl _, by exact qK, ⟨by omega, ?_⟩, by omega⟩⟩
      rw [List.take_succ_eq_append_getElem hk', List.any_append, ht]
      simp [hpx]
  · have ek : k = xs.length := by omega
    repeat' first
      | apply cw_seq
      | (refine cw_region_id 2 ?_; (apply ol_val; rfl; apply stp_cmp; apply s_lss; rfl; rfl; all_goals (intro _; try (exfalso; (first | (rename_i hh; exact hh rfl) | omega)))); all_goals (apply ol_nil))
      | (refine cw_region_id 3 ?_; (apply ol_mv; rfl; rfl); (apply ol_as; rfl; rfl); (apply ol_nil))
      | (refine cw_region_id 4 ?_; (apply ol_mv; rfl; rfl); (apply ol_mv; rfl; rfl); (apply ol_mv; rfl; rfl); (apply ol_val; rfl; apply stp_pur; first | (apply s_indexK; rfl; rfl; exact el_23; exact sz_3; (first | rfl); omega) | (apply s_indexO; rfl; rfl; exact el_23; exact sz_3; (first | rfl); omega)); (apply ol_ld; rfl; rfl; rfl; exact qP))
      | (refine cw_region_id 5 ?_; (apply ol_mv; rfl; rfl); (apply ol_as; rfl; rfl); (apply ol_nil))
      | (refine cw_region_id 6 ?_; (apply ol_val; rfl; apply stp_pur; apply s_add64; rfl; rfl; omega); (apply ol_mv; rfl; rfl); (apply ol_nil))
      | (refine cw_region_id 7 ?_; (apply ol_as; rfl; rfl); (apply ol_nil))
      | (apply cw_cond_true; rfl; exact qA)
      | (apply cw_cond_false; rfl; exact qA)
      | apply cw_skip
      | apply cw_ret
      | apply cw_block
      | apply cw_exit
    refine ends [] (RVal.tmp rfl RVal.nil) Pick.nil ?_
    rw [ek, List.take_length] at ht
    simp [tup, idxI, ht]
theorem anyInts_spec {M : View} {w : World} (hM : View.le M (View.of w)) {f : Nat} {cap : List Value} {p : Int → Bool} (hg : goFunc Try.prog f = true) (hp : ∀ (w' : World) (x : Int), View.le M (View.of w') → FnC Try.prog f ([.int .i64 x] ++ cap) w' (fun v _ => v = .bool (p x)))
    {xs : List Int} {r : Bool} (hr : xs.any p = r) {n : Nat} (hn : xs.length = n) {a : Option Addr} {b o c : Nat} (s : SlA M (eK .i64) 1 a xs b o) (hl : xs.length ≤ 4611686018427387904) :
    FnC Try.prog 71 [.slice a n c, .func (.func f) #[] cap.toArray] w (fun v _ => v = .bool r) := by
  subst hr
  refine enterF (M := M) Try.func71 rfl rfl rfl rfl hM ?_
  have hi := idxI_any (p := p) (xs := xs)
  cases hany : xs.any p with
  | true =>
    rw [hany] at hi
    have hi : 0 ≤ idxI p xs := hi.2 rfl
    repeat' first
      | apply cw_seq
      | (refine cw_region_id 0 ?_; (apply ol_as; rfl; rfl); (apply ol_nil))
      | (refine cw_region_id 1 ?_; (apply ol_mv; rfl; rfl); (apply ol_mv; rfl; rfl); (apply ol_val; rfl; apply s_callv; rfl; exact gf_79; (intro w' hw'; exact anyIntsIdx_spec (View.le.refl (View.of w')) (p := p) hg (fun w'' x h => hp w'' x (hw'.le.trans h)) rfl hn (s.mono hw'.le) hl)); (apply ol_val; rfl; apply stp_cmp; apply s_geq; rfl; rfl; all_goals (intro _; try (exfalso; (first | (rename_i hh; exact hh rfl) | omega)))); all_goals (apply ol_as; rfl; rfl); all_goals (apply ol_nil))
      | (apply cw_cond_true; rfl; exact qA)
      | (apply cw_cond_false; rfl; exact qA)
      | apply cw_skip
      | apply cw_ret
      | apply cw_block
      | apply cw_exit
    refine ends [] (RVal.tmp rfl RVal.nil) Pick.nil ?_
    rfl
  | false =>
    rw [hany] at hi
    have hi : ¬ 0 ≤ idxI p xs := fun h => by have := hi.1 h; cases this
    repeat' first
      | apply cw_seq
      | (refine cw_region_id 0 ?_; (apply ol_as; rfl; rfl); (apply ol_nil))
      | (refine cw_region_id 1 ?_; (apply ol_mv; rfl; rfl); (apply ol_mv; rfl; rfl); (apply ol_val; rfl; apply s_callv; rfl; exact gf_79; (intro w' hw'; exact anyIntsIdx_spec (View.le.refl (View.of w')) (p := p) hg (fun w'' x h => hp w'' x (hw'.le.trans h)) rfl hn (s.mono hw'.le) hl)); (apply ol_val; rfl; apply stp_cmp; apply s_geq; rfl; rfl; all_goals (intro _; try (exfalso; (first | (rename_i hh; exact hh rfl) | omega)))); all_goals (apply ol_as; rfl; rfl); all_goals (apply ol_nil))
      | (apply cw_cond_true; rfl; exact qA)
      | (apply cw_cond_false; rfl; exact qA)
      | apply cw_skip
      | apply cw_ret
      | apply cw_block
      | apply cw_exit
    refine ends [] (RVal.tmp rfl RVal.nil) Pick.nil ?_
    rfl
theorem in_spec (w : World) (x lo hi : Int) : FnC Try.prog 50 [.int .i64 x, .int .i64 lo, .int .i64 hi] w (fun v _ => v = .bool (inn x lo hi)) := by
  refine enterF (M := View.of w) Try.func50 rfl rfl rfl rfl (View.le.refl _) ?_
  cases h : inn x lo hi with
  | true =>
    rw [inn_iff] at h
    repeat' first
      | apply cw_seq
      | (refine cw_region_id 0 ?_; (apply ol_as; rfl; rfl); (apply ol_nil))
      | (refine cw_region_id 1 ?_; (apply ol_mv; rfl; rfl); (apply ol_mv; rfl; rfl); (apply ol_val; rfl; apply stp_cmp; apply s_geq; rfl; rfl; all_goals (intro hc9; try (exfalso; (first | exact hc9 rfl | omega)))); all_goals (apply ol_mv; rfl; rfl); all_goals (first | (apply ol_gskip; rfl; rfl; exact qA; rfl) | (apply ol_gval; rfl; rfl; rfl; exact qA; apply stp_pur; apply s_move; rfl)); all_goals (first | (apply ol_gskip; rfl; rfl; exact qA; rfl) | (apply ol_gval; rfl; rfl; rfl; exact qA; apply stp_pur; apply s_move; rfl)); all_goals (first | (apply ol_gskip; rfl; rfl; exact qA; rfl) | (apply ol_gval; rfl; rfl; rfl; exact qA; apply stp_cmp; apply s_leq; rfl; rfl; all_goals (intro hc13; try (exfalso; (first | exact hc13 rfl | omega))))); all_goals (apply ol_val; rfl; apply stp_pur; first | (apply s_pick_t; rfl; exact qA; rfl) | (apply s_pick_f; rfl; exact qA; rfl)); all_goals (apply ol_as; rfl; rfl); all_goals (apply ol_nil))
      | (apply cw_cond_true; rfl; exact qA)
      | (apply cw_cond_false; rfl; exact qA)
      | apply cw_skip
      | apply cw_ret
      | apply cw_block
      | apply cw_exit
    all_goals (refine ends [] (RVal.tmp rfl RVal.nil) Pick.nil ?_; rfl)
  | false =>
    rw [inn_false] at h
    repeat' first
      | apply cw_seq
      | (refine cw_region_id 0 ?_; (apply ol_as; rfl; rfl); (apply ol_nil))
      | (refine cw_region_id 1 ?_; (apply ol_mv; rfl; rfl); (apply ol_mv; rfl; rfl); (apply ol_val; rfl; apply stp_cmp; apply s_geq; rfl; rfl; all_goals (intro hc9; try (exfalso; (first | exact hc9 rfl | omega)))); all_goals (apply ol_mv; rfl; rfl); all_goals (first | (apply ol_gskip; rfl; rfl; exact qA; rfl) | (apply ol_gval; rfl; rfl; rfl; exact qA; apply stp_pur; apply s_move; rfl)); all_goals (first | (apply ol_gskip; rfl; rfl; exact qA; rfl) | (apply ol_gval; rfl; rfl; rfl; exact qA; apply stp_pur; apply s_move; rfl)); all_goals (first | (apply ol_gskip; rfl; rfl; exact qA; rfl) | (apply ol_gval; rfl; rfl; rfl; exact qA; apply stp_cmp; apply s_leq; rfl; rfl; all_goals (intro hc13; try (exfalso; (first | exact hc13 rfl | omega))))); all_goals (apply ol_val; rfl; apply stp_pur; first | (apply s_pick_t; rfl; exact qA; rfl) | (apply s_pick_f; rfl; exact qA; rfl)); all_goals (apply ol_as; rfl; rfl); all_goals (apply ol_nil))
      | (apply cw_cond_true; rfl; exact qA)
      | (apply cw_cond_false; rfl; exact qA)
      | apply cw_skip
      | apply cw_ret
      | apply cw_block
      | apply cw_exit
    all_goals (refine ends [] (RVal.tmp rfl RVal.nil) Pick.nil ?_; rfl)
theorem between_spec (w : World) (x lo hi : Int) : FnC Try.prog 53 [.int .i64 x, .int .i64 lo, .int .i64 hi] w (fun v _ => v = .bool (inn x lo hi)) := by
  refine enterF (M := View.of w) Try.func53 rfl rfl rfl rfl (View.le.refl _) ?_
  cases h : inn x lo hi with
  | true =>
    rw [inn_iff] at h
    repeat' first
      | apply cw_seq
      | (refine cw_region_id 0 ?_; (apply ol_as; rfl; rfl); (apply ol_nil))
      | (refine cw_region_id 1 ?_; (apply ol_mv; rfl; rfl); (apply ol_mv; rfl; rfl); (apply ol_val; rfl; apply stp_cmp; apply s_geq; rfl; rfl; all_goals (intro hc9; try (exfalso; (first | exact hc9 rfl | omega)))); all_goals (apply ol_mv; rfl; rfl); all_goals (first | (apply ol_gskip; rfl; rfl; exact qA; rfl) | (apply ol_gval; rfl; rfl; rfl; exact qA; apply stp_pur; apply s_move; rfl)); all_goals (first | (apply ol_gskip; rfl; rfl; exact qA; rfl) | (apply ol_gval; rfl; rfl; rfl; exact qA; apply stp_pur; apply s_move; rfl)); all_goals (first | (apply ol_gskip; rfl; rfl; exact qA; rfl) | (apply ol_gval; rfl; rfl; rfl; exact qA; apply stp_cmp; apply s_leq; rfl; rfl; all_goals (intro hc13; try (exfalso; (first | exact hc13 rfl | omega))))); all_goals (apply ol_val; rfl; apply stp_pur; first | (apply s_pick_t; rfl; exact qA; rfl) | (apply s_pick_f; rfl; exact qA; rfl)); all_goals (apply ol_as; rfl; rfl); all_goals (apply ol_nil))
      | (apply cw_cond_true; rfl; exact qA)
      | (apply cw_cond_false; rfl; exact qA)
      | apply cw_skip
      | apply cw_ret
      | apply cw_block
      | apply cw_exit
    all_goals (refine ends [] (RVal.tmp rfl RVal.nil) Pick.nil ?_; rfl)
  | false =>
    rw [inn_false] at h
    repeat' first
      | apply cw_seq
      | (refine cw_region_id 0 ?_; (apply ol_as; rfl; rfl); (apply ol_nil))
      | (refine cw_region_id 1 ?_; (apply ol_mv; rfl; rfl); (apply ol_mv; rfl; rfl); (apply ol_val; rfl; apply stp_cmp; apply s_geq; rfl; rfl; all_goals (intro hc9; try (exfalso; (first | exact hc9 rfl | omega)))); all_goals (apply ol_mv; rfl; rfl); all_goals (first | (apply ol_gskip; rfl; rfl; exact qA; rfl) | (apply ol_gval; rfl; rfl; rfl; exact qA; apply stp_pur; apply s_move; rfl)); all_goals (first | (apply ol_gskip; rfl; rfl; exact qA; rfl) | (apply ol_gval; rfl; rfl; rfl; exact qA; apply stp_pur; apply s_move; rfl)); all_goals (first | (apply ol_gskip; rfl; rfl; exact qA; rfl) | (apply ol_gval; rfl; rfl; rfl; exact qA; apply stp_cmp; apply s_leq; rfl; rfl; all_goals (intro hc13; try (exfalso; (first | exact hc13 rfl | omega))))); all_goals (apply ol_val; rfl; apply stp_pur; first | (apply s_pick_t; rfl; exact qA; rfl) | (apply s_pick_f; rfl; exact qA; rfl)); all_goals (apply ol_as; rfl; rfl); all_goals (apply ol_nil))
      | (apply cw_cond_true; rfl; exact qA)
      | (apply cw_cond_false; rfl; exact qA)
      | apply cw_skip
      | apply cw_ret
      | apply cw_block
      | apply cw_exit
    all_goals (refine ends [] (RVal.tmp rfl RVal.nil) Pick.nil ?_; rfl)
theorem votes1_spec (w : World) (v : Int) : FnC Try.prog 72 [.int .i64 v] w (fun r _ => r = .bool (!inn v 0 1)) := by
  refine enterF (M := View.of w) Try.func72 rfl rfl rfl rfl (View.le.refl _) ?_
  cases h : inn v 0 1 with
  | true =>
    repeat' first
      | apply cw_seq
      | (refine cw_region_id 0 ?_; (apply ol_as; rfl; rfl); (apply ol_nil))
      | (refine cw_region_id 1 ?_; (apply ol_mv; rfl; rfl); (apply ol_val; rfl; apply s_callv; rfl; exact gf_50; (intro w' hw'; have := in_spec w' v 0 1; rw [h] at this; exact this)); (apply ol_val; rfl; apply stp_pur; first | (apply s_not_t; rfl; exact qA) | (apply s_not_f; rfl; exact qA) | (apply s_not; rfl)); (apply ol_as; rfl; rfl); (apply ol_nil))
      | (apply cw_cond_true; rfl; exact qA)
      | (apply cw_cond_false; rfl; exact qA)
      | apply cw_skip
      | apply cw_ret
      | apply cw_block
      | apply cw_exit
    all_goals (refine ends [] (RVal.tmp rfl RVal.nil) Pick.nil ?_; rfl)
  | false =>
    repeat' first
      | apply cw_seq
      | (refine cw_region_id 0 ?_; (apply ol_as; rfl; rfl); (apply ol_nil))
      | (refine cw_region_id 1 ?_; (apply ol_mv; rfl; rfl); (apply ol_val; rfl; apply s_callv; rfl; exact gf_50; (intro w' hw'; have := in_spec w' v 0 1; rw [h] at this; exact this)); (apply ol_val; rfl; apply stp_pur; first | (apply s_not_t; rfl; exact qA) | (apply s_not_f; rfl; exact qA) | (apply s_not; rfl)); (apply ol_as; rfl; rfl); (apply ol_nil))
      | (apply cw_cond_true; rfl; exact qA)
      | (apply cw_cond_false; rfl; exact qA)
      | apply cw_skip
      | apply cw_ret
      | apply cw_block
      | apply cw_exit
    all_goals (refine ends [] (RVal.tmp rfl RVal.nil) Pick.nil ?_; rfl)
end Go.Proofs.Ytagmoecojmlogaa
namespace Go.Proofs.Ytagmoecojmlogaa
set_option maxRecDepth 20000
set_option linter.unusedSimpArgs false
set_option linter.unusedVariables false
open Go Go.Fw
attribute [local irreducible] CW OL OD FX Stp FnC FnV FnA Ret
set_option maxHeartbeats 800000
theorem contains_spec {M : View} {w : World} (hM : View.le M (View.of w)) {xs : List Int} {n : Nat} (hn : xs.length = n) {a : Option Addr} {b o c : Nat} (s : SlA M (eK .i64) 1 a xs b o) (hl : xs.length ≤ 4611686018427387904) (z : Int) :
    FnC Try.prog 73 [.slice a n c, .int .i64 z] w (fun v _ => v = .bool (xs.any fun v => decide (v = z))) := by
  subst hn
  have hidx : ∀ w', View.le M (View.of w') → FnC Try.prog 80 [.slice a xs.length c, .int .i64 z] w' (fun v _ => v = .int .i64 (idxI (fun v => decide (v = z)) xs)) := fun w' hM' => by
    refine enterF (M := M) Try.func80 rfl rfl rfl rfl hM' ?_
    repeat' first
      | apply cw_seq
      | (refine cw_region_id 0 ?_; (apply ol_as; rfl; rfl); (apply ol_nil))
      | (refine cw_region_id 1 ?_; (apply ol_mv; rfl; rfl); (apply ol_val; rfl; apply stp_pur; apply s_len; rfl; exact el_23); (apply ol_mv; rfl; rfl); (apply ol_nil))
      | (apply cw_cond_true; rfl; exact qA)
      | (apply cw_cond_false; rfl; exact qA)
      | apply cw_skip
      | apply cw_ret
      | apply cw_block
      | apply cw_exit
    refine cw_loopK (σ := Nat) [0, 1, 7] (by (repeat (first | exact Keep.nil | (apply Keep.cons; rfl)))) (fun k => [(8, .int .i64 k)]) (fun _ => M) (fun _ => []) (fun k => k ≤ xs.length ∧ (xs.take k).any (fun v => decide (v = z)) = false) (fun k => xs.length - k) 0 (by (repeat (first | exact trivial | refine And.intro rfl ?_))) (View.le.refl _) (by exact qK) ⟨by omega, rfl⟩ ?_
    intro k ⟨hk, ht⟩
    by_cases hk' : k < xs.length
    · have hc := s.cells k hk'
      by_cases hz : z = xs[k]
      ·
        repeat' first
          | apply cw_seq
          | (refine cw_region_id 2 ?_; (apply ol_val; rfl; apply stp_cmp; apply s_lss; rfl; rfl; all_goals (intro hc9; try (exfalso; (first | exact hc9 rfl | omega | exact hc16 hz)))); all_goals (apply ol_nil))
          | (refine cw_region_id 3 ?_; (apply ol_mv; rfl; rfl); (apply ol_as; rfl; rfl); (apply ol_nil))
          | (refine cw_region_id 4 ?_; (apply ol_mv; rfl; rfl); (apply ol_mv; rfl; rfl); (apply ol_mv; rfl; rfl); (apply ol_val; rfl; apply stp_pur; first | (apply s_indexK; rfl; rfl; exact el_23; exact sz_3; (first | rfl | exact s.at_ (by omega)); omega) | (apply s_indexO; rfl; rfl; exact el_23; exact sz_3; (first | rfl | exact s.at_ (by omega)); omega)); (apply ol_ld; rfl; rfl; rfl; (first | exact qP | (apply RdN.view; exact hc))); (apply ol_val; rfl; apply stp_cmp; apply s_eql; rfl; rfl; all_goals (intro hc16; try (exfalso; (first | exact hc16 rfl | omega | exact hc16 hz)))); all_goals (apply ol_nil))
          | (refine cw_region_id 5 ?_; (apply ol_mv; rfl; rfl); (apply ol_as; rfl; rfl); (apply ol_nil))
          | (refine cw_region_id 6 ?_; (apply ol_val; rfl; apply stp_pur; apply s_add64; rfl; rfl; omega); (apply ol_mv; rfl; rfl); (apply ol_nil))
          | (refine cw_region_id 7 ?_; (apply ol_as; rfl; rfl); (apply ol_nil))
          | (apply cw_cond_true; rfl; exact qA)
          | (apply cw_cond_false; rfl; exact qA)
          | apply cw_skip
          | apply cw_ret
          | apply cw_block
          | apply cw_exit
        refine ends [] (RVal.tmp rfl RVal.nil) Pick.nil ?_
        rw [idxI_first hk' ht (by simp [hz])]
        rfl
      ·
        repeat' first
          | apply cw_seq
          | (refine cw_region_id 2 ?_; (apply ol_val; rfl; apply stp_cmp; apply s_lss; rfl; rfl; all_goals (intro hc9; try (exfalso; (first | exact hc9 rfl | omega | exact hz hc16)))); all_goals (apply ol_nil))
          | (refine cw_region_id 3 ?_; (apply ol_mv; rfl; rfl); (apply ol_as; rfl; rfl); (apply ol_nil))
          | (refine cw_region_id 4 ?_; (apply ol_mv; rfl; rfl); (apply ol_mv; rfl; rfl); (apply ol_mv; rfl; rfl); (apply ol_val; rfl; apply stp_pur; first | (apply s_indexK; rfl; rfl; exact el_23; exact sz_3; (first | rfl | exact s.at_ (by omega)); omega) | (apply s_indexO; rfl; rfl; exact el_23; exact sz_3; (first | rfl | exact s.at_ (by omega)); omega)); (apply ol_ld; rfl; rfl; rfl; (first | exact qP | (apply RdN.view; exact hc))); (apply ol_val; rfl; apply stp_cmp; apply s_eql; rfl; rfl; all_goals (intro hc16; try (exfalso; (first | exact hc16 rfl | omega | exact hz hc16)))); all_goals (apply ol_nil))
          | (refine cw_region_id 5 ?_; (apply ol_mv; rfl; rfl); (apply ol_as; rfl; rfl); (apply ol_nil))
          | (refine cw_region_id 6 ?_; (apply ol_val; rfl; apply stp_pur; apply s_add64; rfl; rfl; omega); (apply ol_mv; rfl; rfl); (apply ol_nil))
          | (refine cw_region_id 7 ?_; (apply ol_as; rfl; rfl); (apply ol_nil))
          | (apply cw_cond_true; rfl; exact qA)
          | (apply cw_cond_false; rfl; exact qA)
          | apply cw_skip
          | apply cw_ret
          | apply cw_block
          | apply cw_exit
        refine ⟨k + 1, ⟨by (repeat (first | exact trivial | refine And.intro rfl ?_)), View.le.refl _, by exact qK, ⟨by omega, ?_⟩, by omega⟩⟩
        rw [List.take_succ_eq_append_getElem hk', List.any_append, ht]
        simpa using fun h => hz h.symm
    · have ek : k = xs.length := by omega
      repeat' first
        | apply cw_seq
        | (refine cw_region_id 2 ?_; (apply ol_val; rfl; apply stp_cmp; apply s_lss; rfl; rfl; all_goals (intro hc9; try (exfalso; (first | exact hc9 rfl | omega)))); all_goals (apply ol_nil))
        | (refine cw_region_id 3 ?_; (apply ol_mv; rfl; rfl); (apply ol_as; rfl; rfl); (apply ol_nil))
        | (refine cw_region_id 4 ?_; (apply ol_mv; rfl; rfl); (apply ol_mv; rfl; rfl); (apply ol_mv; rfl; rfl); (apply ol_val; rfl; apply stp_pur; first | (apply s_indexK; rfl; rfl; exact el_23; exact sz_3; (first | rfl); omega) | (apply s_indexO; rfl; rfl; exact el_23; exact sz_3; (first | rfl); omega)); (apply ol_ld; rfl; rfl; rfl; exact qP); (apply ol_val; rfl; apply stp_cmp; apply s_eql; rfl; rfl; all_goals (intro hc16; try (exfalso; (first | exact hc16 rfl | omega)))); all_goals (apply ol_nil))
        | (refine cw_region_id 5 ?_; (apply ol_mv; rfl; rfl); (apply ol_as; rfl; rfl); (apply ol_nil))
        | (refine cw_region_id 6 ?_; (apply ol_val; rfl; apply stp_pur; apply s_add64; rfl; rfl; omega); (apply ol_mv; rfl; rfl); (apply ol_nil))
        | (refine cw_region_id 7 ?_; (apply ol_as; rfl; rfl); (apply ol_nil))
        | (apply cw_cond_true; rfl; exact qA)
        | (apply cw_cond_false; rfl; exact qA)
        | apply cw_skip
        | apply cw_ret
        | apply cw_block
        | apply cw_exit
      refine ends [] (RVal.tmp rfl RVal.nil) Pick.nil ?_
      rw [ek, List.take_length] at ht
      simp only [tup, idxI, ht]
      rfl
  have hi := idxI_any (p := fun v => decide (v = z)) (xs := xs)
  refine enterF (M := M) Try.func73 rfl rfl rfl rfl hM ?_
  generalize idxI (fun v => decide (v = z)) xs = i at *
  cases hany : xs.any (fun v => decide (v = z)) with
  | true =>
    rw [hany] at hi
    have hi : 0 ≤ i := hi.2 rfl
    repeat' first
      | apply cw_seq
      | (refine cw_region_id 0 ?_; (apply ol_as; rfl; rfl); (apply ol_nil))
      | (refine cw_region_id 1 ?_; (apply ol_mv; rfl; rfl); (apply ol_mv; rfl; rfl); (apply ol_val; rfl; apply s_callv; rfl; exact gf_80; (intro w' hw'; exact hidx w' hw'.le)); (apply ol_val; rfl; apply stp_cmp; apply s_geq; rfl; rfl; all_goals (intro hc8; try (exfalso; (first | exact hc8 rfl | omega)))); all_goals (apply ol_as; rfl; rfl); all_goals (apply ol_nil))
      | (apply cw_cond_true; rfl; exact qA)
      | (apply cw_cond_false; rfl; exact qA)
      | apply cw_skip
      | apply cw_ret
      | apply cw_block
      | apply cw_exit
    refine ends [] (RVal.tmp rfl RVal.nil) Pick.nil ?_
    rfl
  | false =>
    rw [hany] at hi
    have hi : ¬ 0 ≤ i := fun h => by have := hi.1 h; cases this
    repeat' first
      | apply cw_seq
      | (refine cw_region_id 0 ?_; (apply ol_as; rfl; rfl); (apply ol_nil))
      | (refine cw_region_id 1 ?_; (apply ol_mv; rfl; rfl); (apply ol_mv; rfl; rfl); (apply ol_val; rfl; apply s_callv; rfl; exact gf_80; (intro w' hw'; exact hidx w' hw'.le)); (apply ol_val; rfl; apply stp_cmp; apply s_geq; rfl; rfl; all_goals (intro hc8; try (exfalso; (first | exact hc8 rfl | omega)))); all_goals (apply ol_as; rfl; rfl); all_goals (apply ol_nil))
      | (apply cw_cond_true; rfl; exact qA)
      | (apply cw_cond_false; rfl; exact qA)
      | apply cw_skip
      | apply cw_ret
      | apply cw_block
      | apply cw_exit
    refine ends [] (RVal.tmp rfl RVal.nil) Pick.nil ?_
    rfl
theorem tf1_spec {w : World} {n : Int} (hn : 1 ≤ n ∧ n ≤ 8) (x : C3) {b : Nat} (hb : GetN ((View.of w).cell b) 0 1 [.int .i64 n]) :
    FnC Try.prog 70 ([.agg x.enc.toArray] ++ [.pointer (some ⟨b, 0, none⟩)]) w (fun v _ => v = .bool (!tfB n x)) := by
  obtain ⟨f, t, a⟩ := x
  unfold tfB
  dsimp only
  have k1 := fun (w' : World) => in_spec w' f 0 (n - 1)
  have k2 := fun (w' : World) => in_spec w' t 0 (n - 1)
  have k3 := fun (w' : World) => in_spec w' a 1 1125899906842624
  refine enterF (M := View.of w) Try.func70 rfl rfl rfl rfl (View.le.refl _) ?_
  cases h1 : inn f 0 (n - 1) with
  | false =>
    rw [h1] at k1
    repeat' first
      | apply cw_seq
      | (refine cw_region_id 0 ?_; (apply ol_val; rfl; first | (apply s_boxN; rfl; intro bk2) | (apply s_box1; rfl; rfl; intro bk2)); (apply ol_as; rfl; rfl); (apply ol_nil))
      | (refine cw_region_id 1 ?_; (apply ol_fa; rfl; rfl; exact fd_61_0; exact qZ); (apply ol_ld; rfl; rfl; rfl; (first | exact qP | (apply RdN.view; exact hb))); (apply ol_ld; rfl; rfl; rfl; (first | exact qP | (apply RdN.view; exact hb))); (apply ol_val; rfl; apply stp_pur; apply s_sub64; rfl; rfl; omega); (apply ol_val; rfl; apply s_callv; rfl; exact gf_50; (intro w' hw'; exact k1 w')); (apply ol_val; rfl; apply stp_pur; first | (apply s_not_t; rfl; exact qA) | (apply s_not_f; rfl; exact qA) | (apply s_not; rfl)); (apply ol_mv; rfl; rfl); (first | (apply ol_gskip; rfl; rfl; exact qA; rfl) | (apply ol_gval; rfl; rfl; rfl; exact qA; apply stp_pur; apply s_fieldAddr'; rfl; exact fd_61_1; exact qZ)); (first | (apply ol_gskip; rfl; rfl; exact qA; rfl) | (apply ol_gval; rfl; rfl; rfl; exact qA; apply stp_pur; apply s_load1; rfl; rfl; (first | exact qP | (apply RdN.view; exact hb)))); (first | (apply ol_gskip; rfl; rfl; exact qA; rfl) | (apply ol_gval; rfl; rfl; rfl; exact qA; apply stp_pur; apply s_load1; rfl; rfl; (first | exact qP | (apply RdN.view; exact hb)))); (first | (apply ol_gskip; rfl; rfl; exact qA; rfl) | (apply ol_gval; rfl; rfl; rfl; exact qA; apply stp_pur; apply s_sub64; rfl; rfl; omega)); (first | (apply ol_gskip; rfl; rfl; exact qA; rfl) | (apply ol_gval; rfl; rfl; rfl; exact qA; apply s_callv; rfl; exact gf_50; (intro w' hw'; exact k1 w'))); (first | (apply ol_gskip; rfl; rfl; exact qA; rfl) | (apply ol_gval; rfl; rfl; rfl; exact qA; apply stp_pur; first | (apply s_not_t; rfl; exact qA) | (apply s_not_f; rfl; exact qA) | (apply s_not; rfl))); (apply ol_val; rfl; apply stp_pur; first | (apply s_pick_t; rfl; exact qA; rfl) | (apply s_pick_f; rfl; exact qA; rfl)); (apply ol_mv; rfl; rfl); (first | (apply ol_gskip; rfl; rfl; exact qA; rfl) | (apply ol_gval; rfl; rfl; rfl; exact qA; apply stp_pur; apply s_fieldAddr'; rfl; exact fd_61_0; exact qZ)); (first | (apply ol_gskip; rfl; rfl; exact qA; rfl) | (apply ol_gval; rfl; rfl; rfl; exact qA; apply stp_pur; apply s_load1; rfl; rfl; (first | exact qP | (apply RdN.view; exact hb)))); (first | (apply ol_gskip; rfl; rfl; exact qA; rfl) | (apply ol_gval; rfl; rfl; rfl; exact qA; apply stp_pur; apply s_fieldAddr'; rfl; exact fd_61_1; exact qZ)); (first | (apply ol_gskip; rfl; rfl; exact qA; rfl) | (apply ol_gval; rfl; rfl; rfl; exact qA; apply stp_pur; apply s_load1; rfl; rfl; (first | exact qP | (apply RdN.view; exact hb)))); (first | (apply ol_gskip; rfl; rfl; exact qA; rfl) | (apply ol_gval; rfl; rfl; rfl; exact qA; apply stp_cmp; apply s_eql; rfl; rfl; all_goals (intro hc23; try (exfalso; (first | exact hc23 rfl | omega))))); all_goals (apply ol_val; rfl; apply stp_pur; first | (apply s_pick_t; rfl; exact qA; rfl) | (apply s_pick_f; rfl; exact qA; rfl)); all_goals (apply ol_mv; rfl; rfl); all_goals (first | (apply ol_gskip; rfl; rfl; exact qA; rfl) | (apply ol_gval; rfl; rfl; rfl; exact qA; apply stp_pur; apply s_fieldAddr'; rfl; exact fd_61_2; exact qZ)); all_goals (first | (apply ol_gskip; rfl; rfl; exact qA; rfl) | (apply ol_gval; rfl; rfl; rfl; exact qA; apply stp_pur; apply s_load1; rfl; rfl; (first | exact qP | (apply RdN.view; exact hb)))); all_goals (first | (apply ol_gskip; rfl; rfl; exact qA; rfl) | (apply ol_gval; rfl; rfl; rfl; exact qA; apply s_callv; rfl; exact gf_50; (intro w' hw'; exact k1 w'))); all_goals (first | (apply ol_gskip; rfl; rfl; exact qA; rfl) | (apply ol_gval; rfl; rfl; rfl; exact qA; apply stp_pur; first | (apply s_not_t; rfl; exact qA) | (apply s_not_f; rfl; exact qA) | (apply s_not; rfl))); all_goals (apply ol_val; rfl; apply stp_pur; first | (apply s_pick_t; rfl; exact qA; rfl) | (apply s_pick_f; rfl; exact qA; rfl)); all_goals (apply ol_as; rfl; rfl); all_goals (apply ol_nil))
      | (apply cw_cond_true; rfl; exact qA)
      | (apply cw_cond_false; rfl; exact qA)
      | apply cw_skip
      | apply cw_ret
      | apply cw_block
      | apply cw_exit
    all_goals (refine ends [] (RVal.tmp rfl RVal.nil) Pick.nil ?_; rfl)
  | true =>
    rw [h1] at k1
    cases h2 : inn t 0 (n - 1) with
    | false =>
      rw [h2] at k2
      repeat' first
        | apply cw_seq
        | (refine cw_region_id 0 ?_; (apply ol_val; rfl; first | (apply s_boxN; rfl; intro bk2) | (apply s_box1; rfl; rfl; intro bk2)); (apply ol_as; rfl; rfl); (apply ol_nil))
        | (refine cw_region_id 1 ?_; (apply ol_fa; rfl; rfl; exact fd_61_0; exact qZ); (apply ol_ld; rfl; rfl; rfl; (first | exact qP | (apply RdN.view; exact hb))); (apply ol_ld; rfl; rfl; rfl; (first | exact qP | (apply RdN.view; exact hb))); (apply ol_val; rfl; apply stp_pur; apply s_sub64; rfl; rfl; omega); (apply ol_val; rfl; apply s_callv; rfl; exact gf_50; (intro w' hw'; first | exact k1 w' | exact k2 w')); (apply ol_val; rfl; apply stp_pur; first | (apply s_not_t; rfl; exact qA) | (apply s_not_f; rfl; exact qA) | (apply s_not; rfl)); (apply ol_mv; rfl; rfl); (first | (apply ol_gskip; rfl; rfl; exact qA; rfl) | (apply ol_gval; rfl; rfl; rfl; exact qA; apply stp_pur; apply s_fieldAddr'; rfl; exact fd_61_1; exact qZ)); (first | (apply ol_gskip; rfl; rfl; exact qA; rfl) | (apply ol_gval; rfl; rfl; rfl; exact qA; apply stp_pur; apply s_load1; rfl; rfl; (first | exact qP | (apply RdN.view; exact hb)))); (first | (apply ol_gskip; rfl; rfl; exact qA; rfl) | (apply ol_gval; rfl; rfl; rfl; exact qA; apply stp_pur; apply s_load1; rfl; rfl; (first | exact qP | (apply RdN.view; exact hb)))); (first | (apply ol_gskip; rfl; rfl; exact qA; rfl) | (apply ol_gval; rfl; rfl; rfl; exact qA; apply stp_pur; apply s_sub64; rfl; rfl; omega)); (first | (apply ol_gskip; rfl; rfl; exact qA; rfl) | (apply ol_gval; rfl; rfl; rfl; exact qA; apply s_callv; rfl; exact gf_50; (intro w' hw'; first | exact k1 w' | exact k2 w'))); (first | (apply ol_gskip; rfl; rfl; exact qA; rfl) | (apply ol_gval; rfl; rfl; rfl; exact qA; apply stp_pur; first | (apply s_not_t; rfl; exact qA) | (apply s_not_f; rfl; exact qA) | (apply s_not; rfl))); (apply ol_val; rfl; apply stp_pur; first | (apply s_pick_t; rfl; exact qA; rfl) | (apply s_pick_f; rfl; exact qA; rfl)); (apply ol_mv; rfl; rfl); (first | (apply ol_gskip; rfl; rfl; exact qA; rfl) | (apply ol_gval; rfl; rfl; rfl; exact qA; apply stp_pur; apply s_fieldAddr'; rfl; exact fd_61_0; exact qZ)); (first | (apply ol_gskip; rfl; rfl; exact qA; rfl) | (apply ol_gval; rfl; rfl; rfl; exact qA; apply stp_pur; apply s_load1; rfl; rfl; (first | exact qP | (apply RdN.view; exact hb)))); (first | (apply ol_gskip; rfl; rfl; exact qA; rfl) | (apply ol_gval; rfl; rfl; rfl; exact qA; apply stp_pur; apply s_fieldAddr'; rfl; exact fd_61_1; exact qZ)); (first | (apply ol_gskip; rfl; rfl; exact qA; rfl) | (apply ol_gval; rfl; rfl; rfl; exact qA; apply stp_pur; apply s_load1; rfl; rfl; (first | exact qP | (apply RdN.view; exact hb)))); (first | (apply ol_gskip; rfl; rfl; exact qA; rfl) | (apply ol_gval; rfl; rfl; rfl; exact qA; apply stp_cmp; apply s_eql; rfl; rfl; all_goals (intro hc23; try (exfalso; (first | exact hc23 rfl | omega | exact hc23 h3 | exact h3 hc23))))); all_goals (apply ol_val; rfl; apply stp_pur; first | (apply s_pick_t; rfl; exact qA; rfl) | (apply s_pick_f; rfl; exact qA; rfl)); all_goals (apply ol_mv; rfl; rfl); all_goals (first | (apply ol_gskip; rfl; rfl; exact qA; rfl) | (apply ol_gval; rfl; rfl; rfl; exact qA; apply stp_pur; apply s_fieldAddr'; rfl; exact fd_61_2; exact qZ)); all_goals (first | (apply ol_gskip; rfl; rfl; exact qA; rfl) | (apply ol_gval; rfl; rfl; rfl; exact qA; apply stp_pur; apply s_load1; rfl; rfl; (first | exact qP | (apply RdN.view; exact hb)))); all_goals (first | (apply ol_gskip; rfl; rfl; exact qA; rfl) | (apply ol_gval; rfl; rfl; rfl; exact qA; apply s_callv; rfl; exact gf_50; (intro w' hw'; first | exact k1 w' | exact k2 w'))); all_goals (first | (apply ol_gskip; rfl; rfl; exact qA; rfl) | (apply ol_gval; rfl; rfl; rfl; exact qA; apply stp_pur; first | (apply s_not_t; rfl; exact qA) | (apply s_not_f; rfl; exact qA) | (apply s_not; rfl))); all_goals (apply ol_val; rfl; apply stp_pur; first | (apply s_pick_t; rfl; exact qA; rfl) | (apply s_pick_f; rfl; exact qA; rfl)); all_goals (apply ol_as; rfl; rfl); all_goals (apply ol_nil))
        | (apply cw_cond_true; rfl; exact qA)
        | (apply cw_cond_false; rfl; exact qA)
        | apply cw_skip
        | apply cw_ret
        | apply cw_block
        | apply cw_exit
      all_goals (refine ends [] (RVal.tmp rfl RVal.nil) Pick.nil ?_; rfl)
    | true =>
      rw [h2] at k2
      by_cases h3 : f = t
      · rw [decide_eq_true h3]
        repeat' first
          | apply cw_seq
          | (refine cw_region_id 0 ?_; (apply ol_val; rfl; first | (apply s_boxN; rfl; intro bk2) | (apply s_box1; rfl; rfl; intro bk2)); (apply ol_as; rfl; rfl); (apply ol_nil))
          | (refine cw_region_id 1 ?_; (apply ol_fa; rfl; rfl; exact fd_61_0; exact qZ); (apply ol_ld; rfl; rfl; rfl; (first | exact qP | (apply RdN.view; exact hb))); (apply ol_ld; rfl; rfl; rfl; (first | exact qP | (apply RdN.view; exact hb))); (apply ol_val; rfl; apply stp_pur; apply s_sub64; rfl; rfl; omega); (apply ol_val; rfl; apply s_callv; rfl; exact gf_50; (intro w' hw'; first | exact k1 w' | exact k2 w')); (apply ol_val; rfl; apply stp_pur; first | (apply s_not_t; rfl; exact qA) | (apply s_not_f; rfl; exact qA) | (apply s_not; rfl)); (apply ol_mv; rfl; rfl); (first | (apply ol_gskip; rfl; rfl; exact qA; rfl) | (apply ol_gval; rfl; rfl; rfl; exact qA; apply stp_pur; apply s_fieldAddr'; rfl; exact fd_61_1; exact qZ)); (first | (apply ol_gskip; rfl; rfl; exact qA; rfl) | (apply ol_gval; rfl; rfl; rfl; exact qA; apply stp_pur; apply s_load1; rfl; rfl; (first | exact qP | (apply RdN.view; exact hb)))); (first | (apply ol_gskip; rfl; rfl; exact qA; rfl) | (apply ol_gval; rfl; rfl; rfl; exact qA; apply stp_pur; apply s_load1; rfl; rfl; (first | exact qP | (apply RdN.view; exact hb)))); (first | (apply ol_gskip; rfl; rfl; exact qA; rfl) | (apply ol_gval; rfl; rfl; rfl; exact qA; apply stp_pur; apply s_sub64; rfl; rfl; omega)); (first | (apply ol_gskip; rfl; rfl; exact qA; rfl) | (apply ol_gval; rfl; rfl; rfl; exact qA; apply s_callv; rfl; exact gf_50; (intro w' hw'; first | exact k1 w' | exact k2 w'))); (first | (apply ol_gskip; rfl; rfl; exact qA; rfl) | (apply ol_gval; rfl; rfl; rfl; exact qA; apply stp_pur; first | (apply s_not_t; rfl; exact qA) | (apply s_not_f; rfl; exact qA) | (apply s_not; rfl))); (apply ol_val; rfl; apply stp_pur; first | (apply s_pick_t; rfl; exact qA; rfl) | (apply s_pick_f; rfl; exact qA; rfl)); (apply ol_mv; rfl; rfl); (first | (apply ol_gskip; rfl; rfl; exact qA; rfl) | (apply ol_gval; rfl; rfl; rfl; exact qA; apply stp_pur; apply s_fieldAddr'; rfl; exact fd_61_0; exact qZ)); (first | (apply ol_gskip; rfl; rfl; exact qA; rfl) | (apply ol_gval; rfl; rfl; rfl; exact qA; apply stp_pur; apply s_load1; rfl; rfl; (first | exact qP | (apply RdN.view; exact hb)))); (first | (apply ol_gskip; rfl; rfl; exact qA; rfl) | (apply ol_gval; rfl; rfl; rfl; exact qA; apply stp_pur; apply s_fieldAddr'; rfl; exact fd_61_1; exact qZ)); (first | (apply ol_gskip; rfl; rfl; exact qA; rfl) | (apply ol_gval; rfl; rfl; rfl; exact qA; apply stp_pur; apply s_load1; rfl; rfl; (first | exact qP | (apply RdN.view; exact hb)))); (first | (apply ol_gskip; rfl; rfl; exact qA; rfl) | (apply ol_gval; rfl; rfl; rfl; exact qA; apply stp_cmp; apply s_eql; rfl; rfl; all_goals (intro hc23; try (exfalso; (first | exact hc23 rfl | omega | exact hc23 h3 | exact h3 hc23))))); all_goals (apply ol_val; rfl; apply stp_pur; first | (apply s_pick_t; rfl; exact qA; rfl) | (apply s_pick_f; rfl; exact qA; rfl)); all_goals (apply ol_mv; rfl; rfl); all_goals (first | (apply ol_gskip; rfl; rfl; exact qA; rfl) | (apply ol_gval; rfl; rfl; rfl; exact qA; apply stp_pur; apply s_fieldAddr'; rfl; exact fd_61_2; exact qZ)); all_goals (first | (apply ol_gskip; rfl; rfl; exact qA; rfl) | (apply ol_gval; rfl; rfl; rfl; exact qA; apply stp_pur; apply s_load1; rfl; rfl; (first | exact qP | (apply RdN.view; exact hb)))); all_goals (first | (apply ol_gskip; rfl; rfl; exact qA; rfl) | (apply ol_gval; rfl; rfl; rfl; exact qA; apply s_callv; rfl; exact gf_50; (intro w' hw'; first | exact k1 w' | exact k2 w'))); all_goals (first | (apply ol_gskip; rfl; rfl; exact qA; rfl) | (apply ol_gval; rfl; rfl; rfl; exact qA; apply stp_pur; first | (apply s_not_t; rfl; exact qA) | (apply s_not_f; rfl; exact qA) | (apply s_not; rfl))); all_goals (apply ol_val; rfl; apply stp_pur; first | (apply s_pick_t; rfl; exact qA; rfl) | (apply s_pick_f; rfl; exact qA; rfl)); all_goals (apply ol_as; rfl; rfl); all_goals (apply ol_nil))
          | (apply cw_cond_true; rfl; exact qA)
          | (apply cw_cond_false; rfl; exact qA)
          | apply cw_skip
          | apply cw_ret
          | apply cw_block
          | apply cw_exit
        all_goals (refine ends [] (RVal.tmp rfl RVal.nil) Pick.nil ?_; rfl)
      · rw [decide_eq_false h3]
        cases h4 : inn a 1 1125899906842624 with
        | false =>
          rw [h4] at k3
          repeat' first
            | apply cw_seq
            | (refine cw_region_id 0 ?_; (apply ol_val; rfl; first | (apply s_boxN; rfl; intro bk2) | (apply s_box1; rfl; rfl; intro bk2)); (apply ol_as; rfl; rfl); (apply ol_nil))
            | (refine cw_region_id 1 ?_; (apply ol_fa; rfl; rfl; exact fd_61_0; exact qZ); (apply ol_ld; rfl; rfl; rfl; (first | exact qP | (apply RdN.view; exact hb))); (apply ol_ld; rfl; rfl; rfl; (first | exact qP | (apply RdN.view; exact hb))); (apply ol_val; rfl; apply stp_pur; apply s_sub64; rfl; rfl; omega); (apply ol_val; rfl; apply s_callv; rfl; exact gf_50; (intro w' hw'; first | exact k1 w' | exact k2 w' | exact k3 w')); (apply ol_val; rfl; apply stp_pur; first | (apply s_not_t; rfl; exact qA) | (apply s_not_f; rfl; exact qA) | (apply s_not; rfl)); (apply ol_mv; rfl; rfl); (first | (apply ol_gskip; rfl; rfl; exact qA; rfl) | (apply ol_gval; rfl; rfl; rfl; exact qA; apply stp_pur; apply s_fieldAddr'; rfl; exact fd_61_1; exact qZ)); (first | (apply ol_gskip; rfl; rfl; exact qA; rfl) | (apply ol_gval; rfl; rfl; rfl; exact qA; apply stp_pur; apply s_load1; rfl; rfl; (first | exact qP | (apply RdN.view; exact hb)))); (first | (apply ol_gskip; rfl; rfl; exact qA; rfl) | (apply ol_gval; rfl; rfl; rfl; exact qA; apply stp_pur; apply s_load1; rfl; rfl; (first | exact qP | (apply RdN.view; exact hb)))); (first | (apply ol_gskip; rfl; rfl; exact qA; rfl) | (apply ol_gval; rfl; rfl; rfl; exact qA; apply stp_pur; apply s_sub64; rfl; rfl; omega)); (first | (apply ol_gskip; rfl; rfl; exact qA; rfl) | (apply ol_gval; rfl; rfl; rfl; exact qA; apply s_callv; rfl; exact gf_50; (intro w' hw'; first | exact k1 w' | exact k2 w' | exact k3 w'))); (first | (apply ol_gskip; rfl; rfl; exact qA; rfl) | (apply ol_gval; rfl; rfl; rfl; exact qA; apply stp_pur; first | (apply s_not_t; rfl; exact qA) | (apply s_not_f; rfl; exact qA) | (apply s_not; rfl))); (apply ol_val; rfl; apply stp_pur; first | (apply s_pick_t; rfl; exact qA; rfl) | (apply s_pick_f; rfl; exact qA; rfl)); (apply ol_mv; rfl; rfl); (first | (apply ol_gskip; rfl; rfl; exact qA; rfl) | (apply ol_gval; rfl; rfl; rfl; exact qA; apply stp_pur; apply s_fieldAddr'; rfl; exact fd_61_0; exact qZ)); (first | (apply ol_gskip; rfl; rfl; exact qA; rfl) | (apply ol_gval; rfl; rfl; rfl; exact qA; apply stp_pur; apply s_load1; rfl; rfl; (first | exact qP | (apply RdN.view; exact hb)))); (first | (apply ol_gskip; rfl; rfl; exact qA; rfl) | (apply ol_gval; rfl; rfl; rfl; exact qA; apply stp_pur; apply s_fieldAddr'; rfl; exact fd_61_1; exact qZ)); (first | (apply ol_gskip; rfl; rfl; exact qA; rfl) | (apply ol_gval; rfl; rfl; rfl; exact qA; apply stp_pur; apply s_load1; rfl; rfl; (first | exact qP | (apply RdN.view; exact hb)))); (first | (apply ol_gskip; rfl; rfl; exact qA; rfl) | (apply ol_gval; rfl; rfl; rfl; exact qA; apply stp_cmp; apply s_eql; rfl; rfl; all_goals (intro hc23; try (exfalso; (first | exact hc23 rfl | omega | exact hc23 h3 | exact h3 hc23))))); all_goals (apply ol_val; rfl; apply stp_pur; first | (apply s_pick_t; rfl; exact qA; rfl) | (apply s_pick_f; rfl; exact qA; rfl)); all_goals (apply ol_mv; rfl; rfl); all_goals (first | (apply ol_gskip; rfl; rfl; exact qA; rfl) | (apply ol_gval; rfl; rfl; rfl; exact qA; apply stp_pur; apply s_fieldAddr'; rfl; exact fd_61_2; exact qZ)); all_goals (first | (apply ol_gskip; rfl; rfl; exact qA; rfl) | (apply ol_gval; rfl; rfl; rfl; exact qA; apply stp_pur; apply s_load1; rfl; rfl; (first | exact qP | (apply RdN.view; exact hb)))); all_goals (first | (apply ol_gskip; rfl; rfl; exact qA; rfl) | (apply ol_gval; rfl; rfl; rfl; exact qA; apply s_callv; rfl; exact gf_50; (intro w' hw'; first | exact k1 w' | exact k2 w' | exact k3 w'))); all_goals (first | (apply ol_gskip; rfl; rfl; exact qA; rfl) | (apply ol_gval; rfl; rfl; rfl; exact qA; apply stp_pur; first | (apply s_not_t; rfl; exact qA) | (apply s_not_f; rfl; exact qA) | (apply s_not; rfl))); all_goals (apply ol_val; rfl; apply stp_pur; first | (apply s_pick_t; rfl; exact qA; rfl) | (apply s_pick_f; rfl; exact qA; rfl)); all_goals (apply ol_as; rfl; rfl); all_goals (apply ol_nil))
            | (apply cw_cond_true; rfl; exact qA)
            | (apply cw_cond_false; rfl; exact qA)
            | apply cw_skip
            | apply cw_ret
            | apply cw_block
            | apply cw_exit
          all_goals (refine ends [] (RVal.tmp rfl RVal.nil) Pick.nil ?_; rfl)
        | true =>
          rw [h4] at k3
          repeat' first
            | apply cw_seq
            | (refine cw_region_id 0 ?_; (apply ol_val; rfl; first | (apply s_boxN; rfl; intro bk2) | (apply s_box1; rfl; rfl; intro bk2)); (apply ol_as; rfl; rfl); (apply ol_nil))
            | (refine cw_region_id 1 ?_; (apply ol_fa; rfl; rfl; exact fd_61_0; exact qZ); (apply ol_ld; rfl; rfl; rfl; (first | exact qP | (apply RdN.view; exact hb))); (apply ol_ld; rfl; rfl; rfl; (first | exact qP | (apply RdN.view; exact hb))); (apply ol_val; rfl; apply stp_pur; apply s_sub64; rfl; rfl; omega); (apply ol_val; rfl; apply s_callv; rfl; exact gf_50; (intro w' hw'; first | exact k1 w' | exact k2 w' | exact k3 w')); (apply ol_val; rfl; apply stp_pur; first | (apply s_not_t; rfl; exact qA) | (apply s_not_f; rfl; exact qA) | (apply s_not; rfl)); (apply ol_mv; rfl; rfl); (first | (apply ol_gskip; rfl; rfl; exact qA; rfl) | (apply ol_gval; rfl; rfl; rfl; exact qA; apply stp_pur; apply s_fieldAddr'; rfl; exact fd_61_1; exact qZ)); (first | (apply ol_gskip; rfl; rfl; exact qA; rfl) | (apply ol_gval; rfl; rfl; rfl; exact qA; apply stp_pur; apply s_load1; rfl; rfl; (first | exact qP | (apply RdN.view; exact hb)))); (first | (apply ol_gskip; rfl; rfl; exact qA; rfl) | (apply ol_gval; rfl; rfl; rfl; exact qA; apply stp_pur; apply s_load1; rfl; rfl; (first | exact qP | (apply RdN.view; exact hb)))); (first | (apply ol_gskip; rfl; rfl; exact qA; rfl) | (apply ol_gval; rfl; rfl; rfl; exact qA; apply stp_pur; apply s_sub64; rfl; rfl; omega)); (first | (apply ol_gskip; rfl; rfl; exact qA; rfl) | (apply ol_gval; rfl; rfl; rfl; exact qA; apply s_callv; rfl; exact gf_50; (intro w' hw'; first | exact k1 w' | exact k2 w' | exact k3 w'))); (first | (apply ol_gskip; rfl; rfl; exact qA; rfl) | (apply ol_gval; rfl; rfl; rfl; exact qA; apply stp_pur; first | (apply s_not_t; rfl; exact qA) | (apply s_not_f; rfl; exact qA) | (apply s_not; rfl))); (apply ol_val; rfl; apply stp_pur; first | (apply s_pick_t; rfl; exact qA; rfl) | (apply s_pick_f; rfl; exact qA; rfl)); (apply ol_mv; rfl; rfl); (first | (apply ol_gskip; rfl; rfl; exact qA; rfl) | (apply ol_gval; rfl; rfl; rfl; exact qA; apply stp_pur; apply s_fieldAddr'; rfl; exact fd_61_0; exact qZ)); (first | (apply ol_gskip; rfl; rfl; exact qA; rfl) | (apply ol_gval; rfl; rfl; rfl; exact qA; apply stp_pur; apply s_load1; rfl; rfl; (first | exact qP | (apply RdN.view; exact hb)))); (first | (apply ol_gskip; rfl; rfl; exact qA; rfl) | (apply ol_gval; rfl; rfl; rfl; exact qA; apply stp_pur; apply s_fieldAddr'; rfl; exact fd_61_1; exact qZ)); (first | (apply ol_gskip; rfl; rfl; exact qA; rfl) | (apply ol_gval; rfl; rfl; rfl; exact qA; apply stp_pur; apply s_load1; rfl; rfl; (first | exact qP | (apply RdN.view; exact hb)))); (first | (apply ol_gskip; rfl; rfl; exact qA; rfl) | (apply ol_gval; rfl; rfl; rfl; exact qA; apply stp_cmp; apply s_eql; rfl; rfl; all_goals (intro hc23; try (exfalso; (first | exact hc23 rfl | omega | exact hc23 h3 | exact h3 hc23))))); all_goals (apply ol_val; rfl; apply stp_pur; first | (apply s_pick_t; rfl; exact qA; rfl) | (apply s_pick_f; rfl; exact qA; rfl)); all_goals (apply ol_mv; rfl; rfl); all_goals (first | (apply ol_gskip; rfl; rfl; exact qA; rfl) | (apply ol_gval; rfl; rfl; rfl; exact qA; apply stp_pur; apply s_fieldAddr'; rfl; exact fd_61_2; exact qZ)); all_goals (first | (apply ol_gskip; rfl; rfl; exact qA; rfl) | (apply ol_gval; rfl; rfl; rfl; exact qA; apply stp_pur; apply s_load1; rfl; rfl; (first | exact qP | (apply RdN.view; exact hb)))); all_goals (first | (apply ol_gskip; rfl; rfl; exact qA; rfl) | (apply ol_gval; rfl; rfl; rfl; exact qA; apply s_callv; rfl; exact gf_50; (intro w' hw'; first | exact k1 w' | exact k2 w' | exact k3 w'))); all_goals (first | (apply ol_gskip; rfl; rfl; exact qA; rfl) | (apply ol_gval; rfl; rfl; rfl; exact qA; apply stp_pur; first | (apply s_not_t; rfl; exact qA) | (apply s_not_f; rfl; exact qA) | (apply s_not; rfl))); all_goals (apply ol_val; rfl; apply stp_pur; first | (apply s_pick_t; rfl; exact qA; rfl) | (apply s_pick_f; rfl; exact qA; rfl)); all_goals (apply ol_as; rfl; rfl); all_goals (apply ol_nil))
            | (apply cw_cond_true; rfl; exact qA)
            | (apply cw_cond_false; rfl; exact qA)
            | apply cw_skip
            | apply cw_ret
            | apply cw_block
            | apply cw_exit
          all_goals (refine ends [] (RVal.tmp rfl RVal.nil) Pick.nil ?_; rfl)
theorem validTr_spec {M : View} {w : World} (hM : View.le M (View.of w)) {n : Int} (hn : 1 ≤ n ∧ n ≤ 8) {l : List C3} {m : Nat} (hm : l.length = m) (hm2 : m ≤ 100000) {a : Option Addr} {b o c : Nat} (s : SlA M C3.enc 3 a l b o) :
    FnC Try.prog 51 [.int .i64 n, .slice a m c] w (fun v _ => v = .bool (trB n l)) := by
  subst hm
  have hany : l.any (fun x => !tfB n x) = !l.all (tfB n) := by rw [List.all_eq_not_any_not]; simp
  have kc : ∀ (w' : World) (b : Nat), View.le M (View.of w') → OB.ok ⟨some b, [.int .i64 n], 3⟩ w' → FnC Try.prog 69 [.slice a l.length c, .func (.func 70) #[] [.pointer (some ⟨b, 0, none⟩)].toArray] w' (fun v _ => v = .bool (!l.all (tfB n))) := fun w' b h hb =>
    anyTr_spec (View.le.refl (View.of w')) (cap := [.pointer (some ⟨b, 0, none⟩)]) (p := fun x => !tfB n x) (f := 70) (by kernel_rfl) (fun w'' x h2 => tf1_spec hn x ((show GetN ((View.of w').cell b) 0 1 [.int .i64 n] from GetN.cons (OB.cell hb (by rfl)) GetN.nil).mono fun _ _ e => h2.cell e)) hany rfl (s.mono h) (by omega)
  unfold trB
  generalize l.all (tfB n) = r at *
  refine enterF (M := M) Try.func51 rfl rfl rfl rfl hM ?_
  by_cases h : l.length ≤ 300
  · rw [decide_eq_true h]
    cases r with
    | true =>
      repeat' first
        | apply cw_seq
        | (refine cw_region_id 0 ?_; (apply ol_val; rfl; first | (apply s_boxN; rfl; intro bk2) | (apply s_box1; rfl; rfl; intro bk2)); (apply ol_as; rfl; rfl); (apply ol_nil))
        | (refine cw_region_id 1 ?_; (apply ol_mv; rfl; rfl); (apply ol_val; rfl; apply stp_pur; apply s_len; rfl; exact el_22); (apply ol_val; rfl; apply stp_cmp; apply s_leq; rfl; rfl; all_goals (intro hc7; try (exfalso; (first | exact hc7 rfl | omega)))); all_goals (apply ol_mv; rfl; rfl); all_goals (first | (apply ol_gskip; rfl; rfl; exact qA; rfl) | (apply ol_gval; rfl; rfl; rfl; exact qA; apply stp_pur; apply s_move; rfl)); all_goals (first | (apply ol_gskip; rfl; rfl; exact qA; rfl) | (apply ol_gval; rfl; rfl; rfl; exact qA; apply stp_pur; apply s_makeFunc; rfl; rfl)); all_goals (first | (apply ol_gskip; rfl; rfl; exact qA; rfl) | (apply ol_gval; rfl; rfl; rfl; exact qA; apply s_callv; rfl; exact gf_69; (intro w' hw'; exact kc w' _ hw'.le (hw'.ok_ (by (repeat (first | exact Has.here | apply Has.there))))))); all_goals (first | (apply ol_gskip; rfl; rfl; exact qA; rfl) | (apply ol_gval; rfl; rfl; rfl; exact qA; apply stp_pur; first | (apply s_not_t; rfl; exact qA) | (apply s_not_f; rfl; exact qA) | (apply s_not; rfl))); all_goals (apply ol_val; rfl; apply stp_pur; first | (apply s_pick_t; rfl; exact qA; rfl) | (apply s_pick_f; rfl; exact qA; rfl)); all_goals (apply ol_as; rfl; rfl); all_goals (apply ol_nil))
        | (apply cw_cond_true; rfl; exact qA)
        | (apply cw_cond_false; rfl; exact qA)
        | apply cw_skip
        | apply cw_ret
        | apply cw_block
        | apply cw_exit
      all_goals (refine ends [] (RVal.tmp rfl RVal.nil) Pick.nil ?_; rfl)
    | false =>
      repeat' first
        | apply cw_seq
        | (refine cw_region_id 0 ?_; (apply ol_val; rfl; first | (apply s_boxN; rfl; intro bk2) | (apply s_box1; rfl; rfl; intro bk2)); (apply ol_as; rfl; rfl); (apply ol_nil))
        | (refine cw_region_id 1 ?_; (apply ol_mv; rfl; rfl); (apply ol_val; rfl; apply stp_pur; apply s_len; rfl; exact el_22); (apply ol_val; rfl; apply stp_cmp; apply s_leq; rfl; rfl; all_goals (intro hc7; try (exfalso; (first | exact hc7 rfl | omega)))); all_goals (apply ol_mv; rfl; rfl); all_goals (first | (apply ol_gskip; rfl; rfl; exact qA; rfl) | (apply ol_gval; rfl; rfl; rfl; exact qA; apply stp_pur; apply s_move; rfl)); all_goals (first | (apply ol_gskip; rfl; rfl; exact qA; rfl) | (apply ol_gval; rfl; rfl; rfl; exact qA; apply stp_pur; apply s_makeFunc; rfl; rfl)); all_goals (first | (apply ol_gskip; rfl; rfl; exact qA; rfl) | (apply ol_gval; rfl; rfl; rfl; exact qA; apply s_callv; rfl; exact gf_69; (intro w' hw'; exact kc w' _ hw'.le (hw'.ok_ (by (repeat (first | exact Has.here | apply Has.there))))))); all_goals (first | (apply ol_gskip; rfl; rfl; exact qA; rfl) | (apply ol_gval; rfl; rfl; rfl; exact qA; apply stp_pur; first | (apply s_not_t; rfl; exact qA) | (apply s_not_f; rfl; exact qA) | (apply s_not; rfl))); all_goals (apply ol_val; rfl; apply stp_pur; first | (apply s_pick_t; rfl; exact qA; rfl) | (apply s_pick_f; rfl; exact qA; rfl)); all_goals (apply ol_as; rfl; rfl); all_goals (apply ol_nil))
        | (apply cw_cond_true; rfl; exact qA)
        | (apply cw_cond_false; rfl; exact qA)
        | apply cw_skip
        | apply cw_ret
        | apply cw_block
        | apply cw_exit
      all_goals (refine ends [] (RVal.tmp rfl RVal.nil) Pick.nil ?_; rfl)
  · rw [decide_eq_false h]
    repeat' first
      | apply cw_seq
      | (refine cw_region_id 0 ?_; (apply ol_val; rfl; first | (apply s_boxN; rfl; intro bk2) | (apply s_box1; rfl; rfl; intro bk2)); (apply ol_as; rfl; rfl); (apply ol_nil))
      | (refine cw_region_id 1 ?_; (apply ol_mv; rfl; rfl); (apply ol_val; rfl; apply stp_pur; apply s_len; rfl; exact el_22); (apply ol_val; rfl; apply stp_cmp; apply s_leq; rfl; rfl; all_goals (intro hc7; try (exfalso; (first | exact hc7 rfl | omega)))); all_goals (apply ol_mv; rfl; rfl); all_goals (first | (apply ol_gskip; rfl; rfl; exact qA; rfl) | (apply ol_gval; rfl; rfl; rfl; exact qA; apply stp_pur; apply s_move; rfl)); all_goals (first | (apply ol_gskip; rfl; rfl; exact qA; rfl) | (apply ol_gval; rfl; rfl; rfl; exact qA; apply stp_pur; apply s_makeFunc; rfl; rfl)); all_goals (first | (apply ol_gskip; rfl; rfl; exact qA; rfl) | (apply ol_gval; rfl; rfl; rfl; exact qA; fail)); all_goals (first | (apply ol_gskip; rfl; rfl; exact qA; rfl) | (apply ol_gval; rfl; rfl; rfl; exact qA; apply stp_pur; first | (apply s_not_t; rfl; exact qA) | (apply s_not_f; rfl; exact qA) | (apply s_not; rfl))); all_goals (apply ol_val; rfl; apply stp_pur; first | (apply s_pick_t; rfl; exact qA; rfl) | (apply s_pick_f; rfl; exact qA; rfl)); all_goals (apply ol_as; rfl; rfl); all_goals (apply ol_nil))
      | (apply cw_cond_true; rfl; exact qA)
      | (apply cw_cond_false; rfl; exact qA)
      | apply cw_skip
      | apply cw_ret
      | apply cw_block
      | apply cw_exit
    all_goals (refine ends [] (RVal.tmp rfl RVal.nil) Pick.nil ?_; rfl)
end Go.Proofs.Ytagmoecojmlogaa
