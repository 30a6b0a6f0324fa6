/-
  Some texts joined.
-/
import Derived.Test.YtkbbbflojebfgaaDoorFw12
import Derived.Test.YtkbbbflojebfgaaDoorTy
/-
  The hash function in plain words. No program in sight.
-/
namespace Go.Proofs.YtkbbbflojebfgaaDoor
set_option maxRecDepth 20000
set_option linter.unusedSimpArgs false
set_option linter.unusedVariables false
open Go Go.Fw

abbrev wr (x : Int) : Int := IntKind.u32.wrap x
abbrev X3 (a b : Int) : Int := Go.bits .xor .u32 a b
abbrev N3 (a b : Int) : Int := Go.bits .and .u32 a b
def rot (x : Int) (n : Nat) : Int := Go.bits .or .u32 (x / 2 ^ n) (wr (x * 2 ^ (32 - n)))
def sg0 (x : Int) : Int := X3 (X3 (rot x 7) (rot x 18)) (x / 2 ^ 3)
def sg1 (x : Int) : Int := X3 (X3 (rot x 17) (rot x 19)) (x / 2 ^ 10)
def nextW (w : List Int) : Int := wr (wr (wr (w.getD (w.length - 16) 0 + sg0 (w.getD (w.length - 15) 0)) + w.getD (w.length - 7) 0) + sg1 (w.getD (w.length - 2) 0))
def sched (ws : List Int) : Nat → List Int
  | 0 => ws
  | n + 1 => sched ws n ++ [nextW (sched ws n)]
/-- The first m bytes of a word. -/
def wordN (p : List Int) (i : Nat) : Nat → Int
  | 0 => 0
  | m + 1 => wr (wr (wordN p i m * 256) + p.getD (4 * i + m) 0)
def words (p : List Int) : Nat → List Int
  | 0 => []
  | n + 1 => words p n ++ [wordN p n 4]
theorem words_length (p : List Int) (n : Nat) : (words p n).length = n := by
  induction n with
  | zero => rfl
  | succ n ih => simp [words, ih]
theorem sched_length (ws : List Int) (n : Nat) : (sched ws n).length = ws.length + n := by
  induction n with
  | zero => rfl
  | succ n ih => simp [sched, ih]; omega

structure H8 where
  a : Int
  b : Int
  c : Int
  d : Int
  e : Int
  f : Int
  g : Int
  h : Int
def H8.l (s : H8) : List Int := [s.a, s.b, s.c, s.d, s.e, s.f, s.g, s.h]
def rx (s : H8) (k w : Int) : Int :=
  wr (wr (wr (wr (s.h + X3 (X3 (rot s.e 6) (rot s.e 11)) (rot s.e 25)) + X3 (N3 s.e s.f) (N3 (X3 4294967295 s.e) s.g)) + k) + w)
def ry (s : H8) : Int :=
  wr (X3 (X3 (rot s.a 2) (rot s.a 13)) (rot s.a 22) + X3 (X3 (N3 s.a s.b) (N3 s.a s.c)) (N3 s.b s.c))
def round (s : H8) (k w : Int) : H8 := ⟨wr (rx s k w + ry s), s.a, s.b, s.c, wr (s.d + rx s k w), s.e, s.f, s.g⟩
def KK : List Int := [1116352408, 1899447441, 3049323471, 3921009573, 961987163, 1508970993, 2453635748, 2870763221, 3624381080, 310598401, 607225278, 1426881987, 1925078388, 2162078206, 2614888103, 3248222580, 3835390401, 4022224774, 264347078, 604807628, 770255983, 1249150122, 1555081692, 1996064986, 2554220882, 2821834349, 2952996808, 3210313671, 3336571891, 3584528711, 113926993, 338241895, 666307205, 773529912, 1294757372, 1396182291, 1695183700, 1986661051, 2177026350, 2456956037, 2730485921, 2820302411, 3259730800, 3345764771, 3516065817, 3600352804, 4094571909, 275423344, 430227734, 506948616, 659060556, 883997877, 958139571, 1322822218, 1537002063, 1747873779, 1955562222, 2024104815, 2227730452, 2361852424, 2428436474, 2756734187, 3204031479, 3329325298]
def rounds (s : H8) (w : List Int) : Nat → H8
  | 0 => s
  | n + 1 => round (rounds s w n) (KK.getD n 0) (w.getD n 0)
def add8 (s t : H8) : H8 := ⟨wr (s.a + t.a), wr (s.b + t.b), wr (s.c + t.c), wr (s.d + t.d), wr (s.e + t.e), wr (s.f + t.f), wr (s.g + t.g), wr (s.h + t.h)⟩
def block (s : H8) (p : List Int) : H8 := add8 s (rounds s (sched (words p 16) 48) 64)
def start : H8 := ⟨1779033703, 3144134277, 1013904242, 2773480762, 1359893119, 2600822924, 528734635, 1541459225⟩
def blocks (p : List Int) : Nat → H8
  | 0 => start
  | n + 1 => block (blocks p n) ((p.drop (64 * n)).take 64)
/-- A number in 8 bytes. -/
def beN (n : Int) (k : Nat) : List Int := (List.range k).map fun i => IntKind.u8.wrap (n / 2 ^ (56 - 8 * i))
def be8 (n : Int) : List Int := beN n 8
theorem beN_length (n : Int) (k : Nat) : (beN n k).length = k := by simp [beN]
theorem be8_length (n : Int) : (be8 n).length = 8 := beN_length n 8
theorem beN_succ (n : Int) (k : Nat) : beN n (k + 1) = beN n k ++ [IntKind.u8.wrap (n / 2 ^ (56 - 8 * k))] := by simp [beN, List.range_succ]
/-- A row that is filled from the front. -/
theorem set_fill {A : List Int} {m i : Nat} (h : A.length = i) (hm : 0 < m) (v : Int) : (A ++ List.replicate m 0).set i v = (A ++ [v]) ++ List.replicate (m - 1) 0 := by
  subst h
  rw [List.set_append_right _ _ (Nat.le_refl _), Nat.sub_self]
  cases m with
  | zero => omega
  | succ m => simp [List.replicate_succ]
def zer (n : Nat) : Nat := (119 - n % 64) % 64
def pad (p : List Int) : List Int := p ++ [128] ++ List.replicate (zer p.length) 0 ++ be8 (8 * (p.length : Int))
def outN (s : H8) (m : Nat) : List Int := (List.range m).map fun i => IntKind.u8.wrap (s.l.getD (i / 4) 0 / 2 ^ (24 - 8 * (i % 4)))
theorem outN_length (s : H8) (m : Nat) : (outN s m).length = m := by simp [outN]
theorem outN_succ (s : H8) (m : Nat) : outN s (m + 1) = outN s m ++ [IntKind.u8.wrap (s.l.getD (m / 4) 0 / 2 ^ (24 - 8 * (m % 4)))] := by simp [outN, List.range_succ]
def outB (s : H8) : List Int := outN s 32
def sha (p : List Int) : List Int := outB (blocks (pad p) ((pad p).length / 64))
theorem sha_length (p : List Int) : (sha p).length = 32 := outN_length _ _
theorem pad_length (p : List Int) : (pad p).length % 64 = 0 ∧ (pad p).length = p.length + 9 + zer p.length := by
  have h : (pad p).length = p.length + 9 + zer p.length := by simp [pad, be8_length]; omega
  refine ⟨?_, h⟩
  rw [h]; unfold zer; omega

end Go.Proofs.YtkbbbflojebfgaaDoor

/-
  Rotations and shifts of words: what the two programs compute is the same.
-/
namespace Go.Proofs.YtkbbbflojebfgaaDoor
set_option maxRecDepth 20000
set_option linter.unusedSimpArgs false
set_option linter.unusedVariables false
open Go Go.Fw

theorem or_comm32 (a b : Int) : Go.bits .or .u32 a b = Go.bits .or .u32 b a := by
  simp only [Go.bits, BitVec.or_comm]
theorem neg64 {n : Int} (h : 1 ≤ n ∧ n ≤ 31) : IntKind.u64.wrap (-n) = 18446744073709551616 - n := by
  rw [wrapU64]; omega
theorem and31_fin : ∀ n : Fin 32, 1 ≤ n.val → Go.bits .and .u64 (18446744073709551616 - (n.val : Int)) 31 = 32 - (n.val : Int) := by decide +kernel
theorem and31 {n : Int} (h : 1 ≤ n ∧ n ≤ 31) : Go.bits .and .u64 (18446744073709551616 - n) 31 = 32 - n := by
  obtain ⟨m, rfl⟩ := Int.eq_ofNat_of_zero_le (show 0 ≤ n by omega)
  exact and31_fin ⟨m, by omega⟩ (by simp; omega)
theorem sub64 {n k : Int} (h : 1 ≤ n ∧ n ≤ 31) (hk : k = 32 - n) : IntKind.u64.wrap (32 - k) = n := by
  rw [wrapU64]; omega
theorem rot_eq {x n : Int} (h : 1 ≤ n ∧ n ≤ 31) {k j : Int} (hk : k = 32 - n) (hj : j = n) : Go.bits .or .u32 (wr (x * 2 ^ k.toNat)) (x / 2 ^ j.toNat) = rot x n.toNat := by
  rw [or_comm32, hj]
  unfold rot
  rw [show (32 : Nat) - n.toNat = k.toNat by omega]

/-- Shifting a word by 8 and putting a byte in. -/
theorem or_byte {x c : Int} (h : 0 ≤ c ∧ c ≤ 255) : Go.bits .or .u32 (wr (x * 2 ^ 8)) c = wr (wr (x * 256) + c) := by
  obtain ⟨m, rfl⟩ := Int.eq_ofNat_of_zero_le h.1
  have hm : m ≤ 255 := by omega
  obtain ⟨q, hq⟩ := Int.eq_ofNat_of_zero_le (show 0 ≤ x % 16777216 by omega)
  have hq' : q < 16777216 := by omega
  have e : wr (x * 2 ^ 8) = ((q * 256 : Nat) : Int) := by
    show IntKind.u32.wrap (x * 256) = _
    rw [wrapU32]
    omega
  have e2 : wr (x * 256) = ((q * 256 : Nat) : Int) := by rw [← e]; rfl
  rw [e, e2]
  have e3 : Go.bits .or .u32 ((q * 256 : Nat) : Int) (m : Int) = IntKind.u32.wrap (((q * 256) ||| m : Nat) : Int) := by
    show IntKind.u32.wrap (((BitVec.ofInt 32 ((q * 256 : Nat) : Int) ||| BitVec.ofInt 32 (m : Int)) : BitVec 32).toNat : Int) = _
    rw [BitVec.toNat_or, BitVec.ofInt_natCast, BitVec.ofInt_natCast, BitVec.toNat_ofNat, BitVec.toNat_ofNat]
    rw [Nat.mod_eq_of_lt (by omega), Nat.mod_eq_of_lt (by omega)]
  rw [e3]
  have e4 : q * 256 ||| m = q * 256 + m := by
    have := Nat.shiftLeft_add_eq_or_of_lt (i := 8) (b := m) (by omega) q
    rw [Nat.shiftLeft_eq] at this
    simpa using this.symm
  rw [e4]
  congr 1
end Go.Proofs.YtkbbbflojebfgaaDoor

/-
  The walks of the small ones: rotations, numbers in 8 bytes.
-/
namespace Go.Proofs.YtkbbbflojebfgaaDoor
set_option maxRecDepth 20000
set_option linter.unusedSimpArgs false
set_option linter.unusedVariables false
open Go Go.Fw
attribute [local irreducible] CW OL OD FX Stp FnC Ret
set_option maxHeartbeats 1000000

theorem rotl_spec (w : World) (x n : Int) (h : 1 ≤ n ∧ n ≤ 31) :
    FnC Tryd.prog 58 [.int .u32 x, .int .i64 (-n)] w (fun v _ => v = .int .u32 (rot x n.toNat)) := by
  refine enterF (M := View.of w) Tryd.func58 rfl rfl rfl rfl (View.le.refl _) ?_
  have h1 := neg64 h
  have h2 := and31 h
  have h3 := sub64 h h2
  repeat' first
    | apply cw_seq
    | (refine cw_region_id 0 ?_; (apply ol_as; exact rfl; exact rfl); (apply ol_nil))
    | (refine cw_region_id 1 ?_; (apply ol_mv; exact rfl; exact rfl); (apply ol_val; exact rfl; apply stp_pur; first | (apply s_conv; exact rfl; exact rfl; exact ti_91; (focus (apply wrap_u64; omega))) | (apply s_conv; exact rfl; exact rfl; exact ti_91; exact h1) | (apply s_conv; exact rfl; exact rfl; exact ti_91; exact rfl)); (apply ol_val; exact rfl; apply stp_pur; apply s_and; exact rfl; exact rfl); (apply ol_as; exact rfl; exact rfl); (apply ol_nil))
    | (refine cw_region_id 2 ?_; (apply ol_mv; exact rfl; exact rfl); (apply ol_mv; exact rfl; exact rfl); (apply ol_val; exact rfl; apply stp_pur; apply s_shlW; exact rfl; exact rfl; (first | decide | omega | (simp [IntKind.bits]; omega) | (simp [IntKind.bits]; done))); (apply ol_mv; exact rfl; exact rfl); (apply ol_mv; exact rfl; exact rfl); (apply ol_val; exact rfl; apply stp_pur; apply s_subW; exact rfl; exact rfl); (apply ol_val; exact rfl; apply stp_pur; apply s_shr; exact rfl; exact rfl; (first | decide | omega | (simp [IntKind.bits]; omega) | (simp [IntKind.bits]; done))); (apply ol_val; exact rfl; apply stp_pur; apply s_or; exact rfl; exact rfl); (apply ol_as; exact rfl; exact rfl); (apply ol_nil))
    | (apply cw_cond_true; exact rfl; (first | exact rfl | assumption))
    | (apply cw_cond_false; exact rfl; (first | exact rfl | assumption))
    | apply cw_skip
    | apply cw_ret
    | apply cw_block
    | apply cw_exit
  refine ends [] (by (repeat (first | exact RVal.nil | (apply RVal.tmp; exact rfl) | (apply RVal.cellN; exact rfl; exact rfl; (fail); apply RdN.own; (focus ((repeat (first | exact Has.here | apply Has.there)); done)); (focus ((repeat (first | exact GetN.nil | (apply GetN.cons; exact rfl))); done))) | (apply RVal.cell1; exact rfl; exact rfl; apply RdN.own; (focus ((repeat (first | exact Has.here | apply Has.there)); done)); exact GetN.cons rfl GetN.nil)))) Pick.nil ?_
  exact congrArg (Value.int .u32) (rot_eq h h2 h3)

theorem right_spec (w : World) (x n : Int) (h : 1 ≤ n ∧ n ≤ 31) :
    FnC Tryd.prog 54 [.int .u32 x, .int .i64 n] w (fun v _ => v = .int .u32 (rot x n.toNat)) := by
  refine enterF (M := View.of w) Tryd.func54 rfl rfl rfl rfl (View.le.refl _) ?_
  repeat' first
    | apply cw_seq
    | (refine cw_region_id 0 ?_; (apply ol_as; exact rfl; exact rfl); (apply ol_nil))
    | (refine cw_region_id 1 ?_; (apply ol_mv; exact rfl; exact rfl); (apply ol_mv; exact rfl; exact rfl); (apply ol_val; exact rfl; apply stp_pur; apply s_neg64; exact rfl; omega); (apply ol_val; exact rfl; apply s_callv; exact rfl; exact gf_58; (intro w' hw'; exact rotl_spec w' x n h)); (apply ol_as; exact rfl; exact rfl); (apply ol_nil))
    | (apply cw_cond_true; exact rfl; (first | exact rfl | assumption))
    | (apply cw_cond_false; exact rfl; (first | exact rfl | assumption))
    | apply cw_skip
    | apply cw_ret
    | apply cw_block
    | apply cw_exit
  refine ends [] (by (repeat (first | exact RVal.nil | (apply RVal.tmp; exact rfl) | (apply RVal.cellN; exact rfl; exact rfl; (fail); apply RdN.own; (focus ((repeat (first | exact Has.here | apply Has.there)); done)); (focus ((repeat (first | exact GetN.nil | (apply GetN.cons; exact rfl))); done))) | (apply RVal.cell1; exact rfl; exact rfl; apply RdN.own; (focus ((repeat (first | exact Has.here | apply Has.there)); done)); exact GetN.cons rfl GetN.nil)))) Pick.nil ?_
  rfl

theorem rright_spec (w : World) (x n : Int) (h : 1 ≤ n ∧ n ≤ 31) :
    FnC Tryd.prog 48 [.int .u32 x, .int .i64 n] w (fun v _ => v = .int .u32 (rot x n.toNat)) := by
  refine enterF (M := View.of w) Tryd.func48 rfl rfl rfl rfl (View.le.refl _) ?_
  repeat' first
    | apply cw_seq
    | (refine cw_region_id 0 ?_; (apply ol_as; exact rfl; exact rfl); (apply ol_nil))
    | (refine cw_draw (id := 1) 9 (.mv 0 (.mv 1 (.mv 2 (.mv 3 (.mv 4 (.mv 5 (.mv 6 (.mv 7 (.mv 8 (PT.nil)))))))))) mixed (by kernel_rfl) ?_; (apply od_mv; exact rfl; exact rfl; apply s_move; exact rfl); (apply od_mv; exact rfl; exact rfl; apply s_move; exact rfl); (apply od_mv; exact rfl; exact rfl; apply s_shr; exact rfl; exact rfl; (first | decide | omega | (simp [IntKind.bits]; omega) | (simp [IntKind.bits]; done))); (apply od_mv; exact rfl; exact rfl; apply s_move; exact rfl); (apply od_mv; exact rfl; exact rfl; apply s_move; exact rfl); (apply od_mv; exact rfl; exact rfl; apply s_sub64; exact rfl; exact rfl; omega); (apply od_mv; exact rfl; exact rfl; apply s_shlW; exact rfl; exact rfl; (first | decide | omega | (simp [IntKind.bits]; omega) | (simp [IntKind.bits]; done))); (apply od_mv; exact rfl; exact rfl; apply s_or; exact rfl; exact rfl); (apply od_mv; exact rfl; exact rfl; apply s_assign; exact rfl); (apply od_nil; (first | exact Wk.refl _ _ | (focus (apply Wk.mk; (first | exact View.le.refl _ | assumption | exact View.le.trans (by assumption) (by assumption)); (repeat constructor); done)))); (apply ol_nil))
    | (apply cw_cond_true; exact rfl; (first | exact rfl | assumption))
    | (apply cw_cond_false; exact rfl; (first | exact rfl | assumption))
    | apply cw_skip
    | apply cw_ret
    | apply cw_block
    | apply cw_exit
  refine ends [] (by (repeat (first | exact RVal.nil | (apply RVal.tmp; exact rfl) | (apply RVal.cellN; exact rfl; exact rfl; (fail); apply RdN.own; (focus ((repeat (first | exact Has.here | apply Has.there)); done)); (focus ((repeat (first | exact GetN.nil | (apply GetN.cons; exact rfl))); done))) | (apply RVal.cell1; exact rfl; exact rfl; apply RdN.own; (focus ((repeat (first | exact Has.here | apply Has.there)); done)); exact GetN.cons rfl GetN.nil)))) Pick.nil ?_
  refine congrArg (Value.int .u32) ?_
  unfold rot
  rw [show (32 : Nat) - n.toNat = (32 - n).toNat by omega]
end Go.Proofs.YtkbbbflojebfgaaDoor

/-
  The walks of numbers in 8 bytes.
-/
namespace Go.Proofs.YtkbbbflojebfgaaDoor
set_option maxRecDepth 20000
set_option linter.unusedSimpArgs false
set_option linter.unusedVariables false
open Go Go.Fw
attribute [local irreducible] CW OL OD FX Stp FnC Ret
set_option maxHeartbeats 1000000

theorem count_spec (w : World) (n : Int) : FnC Tryd.prog 43 [.int .u64 n] w (RowRes (eK .u8) 1 5 (be8 n)) := by
  refine enterF (M := View.of w) Tryd.func43 rfl rfl rfl rfl (View.le.refl _) ?_
  repeat' first
    | apply cw_seq
    | (refine cw_region_id 0 ?_; (apply ol_as; exact rfl; exact rfl); (apply ol_nil))
    | (refine cw_region_id 1 ?_; (apply ol_val; exact rfl; apply s_makeB (n := 8) (c := 8); exact rfl; exact rfl; exact el_38; exact sz_5; exact zb_5; exact rfl; exact by_5; omega; omega; omega; intro bk5); (apply ol_as; exact rfl; exact rfl); (apply ol_nil))
    | (refine cw_region_id 2 ?_; (apply ol_mv; exact rfl; exact rfl); (apply ol_val; exact rfl; apply stp_pur; apply s_len; exact rfl; exact el_38); (apply ol_mv; exact rfl; exact rfl); (apply ol_nil))
    | (apply cw_cond_true; exact rfl; (first | exact rfl | assumption))
    | (apply cw_cond_false; exact rfl; (first | exact rfl | assumption))
    | apply cw_skip
    | apply cw_ret
    | apply cw_block
    | apply cw_exit
  refine cw_loopK (σ := Nat) [0, 3, 7] (by (repeat (first | exact Keep.nil | (apply Keep.cons; exact rfl)))) (fun k => [(8, .int .i64 k)]) (fun _ => View.of w) (fun k => [⟨some bk5, flat (eK .u8) (beN n k ++ List.replicate (8 - k) 0), 5⟩]) (fun k => k ≤ 8) (fun k => 8 - k) 0 (by (repeat (first | exact trivial | refine And.intro rfl ?_))) (View.le.refl _) (by (repeat (first | exact Pick.nil | (apply Pick.cons; (focus ((repeat (first | exact Spl.here | apply Spl.there)); done))) | exact Pick.refl | exact Pick.skip1 | exact Pick.skip2))) (by omega) ?_
  intro k hk
  have hlen : (beN n k ++ List.replicate (8 - k) 0).length = 8 := by rw [List.length_append, beN_length, List.length_replicate]; omega
  by_cases hk' : k < 8
  · have hst : beN n (k + 1) ++ List.replicate (8 - (k + 1)) 0 = (beN n k ++ List.replicate (8 - k) 0).set k (IntKind.u8.wrap (n / 2 ^ (56 - 8 * (k : Int)).toNat)) := by
      rw [set_fill (beN_length n k) (by omega), beN_succ, show (56 - 8 * (k : Int)).toNat = 56 - 8 * k by omega]
      rfl
    try dsimp only
    repeat' first
      | apply cw_seq
      | (refine cw_region_id 3 ?_; (apply ol_val; exact rfl; apply stp_cmp; apply s_lss; exact rfl; exact rfl; all_goals (intro hc9; try (exfalso; (first | exact hc9 rfl | omega)))); all_goals (apply ol_nil))
      | (refine cw_region_id 4 ?_; (apply ol_mv; exact rfl; exact rfl); (apply ol_as; exact rfl; exact rfl); (apply ol_nil))
      | (refine cw_region_id 5 ?_; (apply ol_mv; exact rfl; exact rfl); (apply ol_mv; exact rfl; exact rfl); (apply ol_mv; exact rfl; exact rfl); (apply ol_mv; exact rfl; exact rfl); (apply ol_val; exact rfl; apply stp_pur; apply s_mul64; exact rfl; exact rfl; omega); (apply ol_val; exact rfl; apply stp_pur; apply s_sub64; exact rfl; exact rfl; omega); (apply ol_val; exact rfl; apply stp_pur; apply s_shr; exact rfl; exact rfl; (first | decide | omega | (simp [IntKind.bits]; omega) | (simp [IntKind.bits]; done))); (apply ol_val; exact rfl; apply stp_pur; first | (apply s_conv; exact rfl; exact rfl; exact ti_5; (focus (apply wrap_u8; omega))) | (apply s_conv; exact rfl; exact rfl; exact ti_5; exact rfl)); (apply ol_val; exact rfl; apply stp_pur; first | (apply s_indexK; exact rfl; exact rfl; exact el_38; exact sz_5; (first | exact rfl | exact rfl); omega) | (apply s_indexO; exact rfl; exact rfl; exact el_38; exact sz_5; (first | exact rfl | exact rfl); omega)); (apply ol_eff; apply s_store1; exact rfl; exact rfl; exact sz_5; exact rfl; (focus ((repeat constructor); done)); (first | (focus ((repeat constructor); done)) | (apply setAt_ints_app; (first | omega | (simp; omega) | (simp; done))) | (apply setAt_ints; (first | omega | (simp; omega) | (simp; done))) | (apply setAtK0; omega) | (apply SetAt.set; (first | omega | (simp; omega) | (simp; done))))); (apply ol_nil))
      | (refine cw_region_id 6 ?_; (apply ol_val; exact rfl; apply stp_pur; apply s_add64; exact rfl; exact rfl; omega); (apply ol_mv; exact rfl; exact rfl); (apply ol_nil))
      | (refine cw_region_id 7 ?_; (apply ol_mv; exact rfl; exact rfl); (apply ol_as; exact rfl; exact rfl); (apply ol_nil))
      | (apply cw_cond_true; exact rfl; (first | exact rfl | assumption))
      | (apply cw_cond_false; exact rfl; (first | exact rfl | assumption))
      | apply cw_skip
      | apply cw_ret
      | apply cw_block
      | apply cw_exit
    refine ⟨k + 1, ⟨by (repeat (first | exact trivial | refine And.intro rfl ?_)), View.le.refl _, ?_, hk', by omega⟩⟩
    rw [hst]
    (repeat (first | exact Pick.nil | (apply Pick.cons; (focus ((repeat (first | exact Spl.here | apply Spl.there)); done))) | exact Pick.refl | exact Pick.skip1 | exact Pick.skip2))
  · have : k = 8 := by omega
    subst this
    repeat' first
      | apply cw_seq
      | (refine cw_region_id 3 ?_; (apply ol_val; exact rfl; apply stp_cmp; apply s_lss; exact rfl; exact rfl; all_goals (intro hc9; try (exfalso; (first | exact hc9 rfl | omega)))); all_goals (apply ol_nil))
      | (refine cw_region_id 4 ?_; (apply ol_mv; exact rfl; exact rfl); (apply ol_as; exact rfl; exact rfl); (apply ol_nil))
      | (refine cw_region_id 5 ?_; (apply ol_mv; exact rfl; exact rfl); (apply ol_mv; exact rfl; exact rfl); (apply ol_mv; exact rfl; exact rfl); (apply ol_mv; exact rfl; exact rfl); (apply ol_val; exact rfl; apply stp_pur; apply s_mul64; exact rfl; exact rfl; omega); (apply ol_val; exact rfl; apply stp_pur; apply s_sub64; exact rfl; exact rfl; omega); (apply ol_val; exact rfl; apply stp_pur; apply s_shr; exact rfl; exact rfl; (first | decide | omega | (simp [IntKind.bits]; omega) | (simp [IntKind.bits]; done))); (apply ol_val; exact rfl; apply stp_pur; first | (apply s_conv; exact rfl; exact rfl; exact ti_5; (focus (apply wrap_u8; omega))) | (apply s_conv; exact rfl; exact rfl; exact ti_5; exact rfl)); (apply ol_val; exact rfl; apply stp_pur; first | (apply s_indexK; exact rfl; exact rfl; exact el_38; exact sz_5; (first | exact rfl); omega) | (apply s_indexO; exact rfl; exact rfl; exact el_38; exact sz_5; (first | exact rfl); omega)); (apply ol_eff; apply s_store1; exact rfl; exact rfl; exact sz_5; exact rfl; (focus ((repeat constructor); done)); (first | (focus ((repeat constructor); done)) | (apply setAt_ints_app; (first | omega | (simp; omega) | (simp; done))) | (apply setAt_ints; (first | omega | (simp; omega) | (simp; done))) | (apply SetAt.set; (first | omega | (simp; omega) | (simp; done))))); (apply ol_nil))
      | (refine cw_region_id 6 ?_; (apply ol_val; exact rfl; apply stp_pur; apply s_add64; exact rfl; exact rfl; omega); (apply ol_mv; exact rfl; exact rfl); (apply ol_nil))
      | (refine cw_region_id 7 ?_; (apply ol_mv; exact rfl; exact rfl); (apply ol_as; exact rfl; exact rfl); (apply ol_nil))
      | (apply cw_cond_true; exact rfl; (first | exact rfl | assumption))
      | (apply cw_cond_false; exact rfl; (first | exact rfl | assumption))
      | apply cw_skip
      | apply cw_ret
      | apply cw_block
      | apply cw_exit
    refine ends [⟨some bk5, flat (eK .u8) (be8 n) ++ [], 5⟩] (RVal.tmp rfl RVal.nil) (by rw [List.append_nil]; (repeat (first | exact Pick.nil | (apply Pick.cons; (focus ((repeat (first | exact Spl.here | apply Spl.there)); done))) | exact Pick.refl | exact Pick.skip1 | exact Pick.skip2))) ?_
    refine ⟨some bk5, none, 8, [], ?_, rfl, ⟨?_, ?_, ?_, ?_⟩⟩
    · rw [be8_length]; rfl
    · rw [flatK_length]; omega
    · rw [flatK_length, be8_length]; rfl
    · rw [be8_length]; exact Nat.le_refl _
    · intro h; cases h

structure RSt where
  k : Nat
  r : Option Nat
  c : Nat
  sp : List Value

theorem bytes_spec (w : World) (n : Int) : FnC Tryd.prog 55 [.int .i64 n] w (RowRes (eK .u8) 1 5 (be8 n)) := by
  refine enterF (M := View.of w) Tryd.func55 rfl rfl rfl rfl (View.le.refl _) ?_
  refine cw_none 5 ?_
  repeat' first
    | apply cw_seq
    | (refine cw_region_id 0 ?_; (apply ol_as; exact rfl; exact rfl); (apply ol_nil))
    | (refine cw_region_id 1 ?_; (apply ol_as; exact rfl; exact rfl); (apply ol_nil))
    | (refine cw_region_id 2 ?_; (apply ol_as; exact rfl; exact rfl); (apply ol_nil))
    | (apply cw_cond_true; exact rfl; (first | exact rfl | assumption))
    | (apply cw_cond_false; exact rfl; (first | exact rfl | assumption))
    | apply cw_skip
    | apply cw_ret
    | apply cw_block
    | apply cw_exit
  refine cw_loopK (σ := RSt) [0] (by (repeat (first | exact Keep.nil | (apply Keep.cons; exact rfl)))) (fun s => [(3, .slice (base s.r none) s.k s.c), (4, .int .i64 (7 - (s.k : Int)))]) (fun _ => View.of w) (fun s => [⟨s.r, flat (eK .u8) (beN n s.k) ++ s.sp, 5⟩]) (fun s => s.k ≤ 8 ∧ SO s.r s.k s.c (flat (eK .u8) (beN n s.k)) s.sp 1) (fun s => 8 - s.k) ⟨0, none, 0, []⟩ (by (repeat (first | exact trivial | refine And.intro rfl ?_))) (View.le.refl _) (by (repeat (first | exact Pick.nil | (apply Pick.cons; (focus ((repeat (first | exact Spl.here | apply Spl.there)); done))) | exact Pick.refl | exact Pick.skip1 | exact Pick.skip2))) ⟨by decide, SO.nil 1⟩ ?_
  rintro ⟨k, r, c, sp⟩ ⟨hk, so⟩
  dsimp only at hk so
  dsimp only
  by_cases hk' : k < 8
  · have hst : beN n (k + 1) = beN n k ++ [IntKind.u8.wrap (n / 2 ^ (8 * (7 - (k : Int))).toNat)] := by
      rw [beN_succ, show (8 * (7 - (k : Int))).toNat = 56 - 8 * k by omega]
    repeat' first
      | apply cw_seq
      | (refine cw_region_id 3 ?_; (apply ol_mv; exact rfl; exact rfl); (apply ol_val; exact rfl; apply stp_cmp; apply s_geq; exact rfl; exact rfl; all_goals (intro hc6; try (exfalso; (first | exact hc6 rfl | omega)))); all_goals (apply ol_nil))
      | (refine cw_region_id 5 ?_; (apply ol_mv; exact rfl; exact rfl); (apply ol_mv; exact rfl; exact rfl); (apply ol_mv; exact rfl; exact rfl); (apply ol_val; exact rfl; apply stp_pur; apply s_mul64; exact rfl; exact rfl; omega); (apply ol_val; exact rfl; apply stp_pur; apply s_shr; exact rfl; exact rfl; (first | decide | omega | (simp [IntKind.bits]; omega) | (simp [IntKind.bits]; done))); (apply ol_val; exact rfl; apply stp_pur; first | (apply s_conv; exact rfl; exact rfl; exact ti_5; (focus (apply wrap_u8; omega))) | (apply s_conv; exact rfl; exact rfl; exact ti_5; exact rfl)); (apply ol_val; exact rfl; apply s_buildSl; exact rfl; exact el_38; exact sz_5; exact zb_5; (focus ((repeat constructor); done)); exact rfl; exact rfl; (exact Nat.le_of_ble_eq_true rfl); (focus ((repeat constructor); done)); (focus ((repeat (first | exact rfl | constructor)); done)); intro bk15); (apply ol_val; exact rfl; first | (apply s_append_e; exact rfl; exact rfl; (focus ((repeat constructor); done)); exact el_38; exact sz_5; exact zb_5; exact rfl; exact by_5; (first | exact (fun _ => rfl)); (first | (apply RdN.own; (focus ((repeat constructor); done)); (focus ((repeat (first | exact rfl | constructor)); done)))); (first | exact rfl); (first | omega | (simp; omega) | (simp; done)); (first | omega | (simp; omega) | (simp; done)); intro rk16 sk16 ck16 ok16) | (apply s_append_r; exact rfl; exact rfl; (focus ((repeat constructor); done)); (first | exact rfl | exact (List.append_nil _).symm); exact el_38; exact sz_5; exact zb_5; exact rfl; exact by_5; (first | exact SO.nil _ | assumption | (exact ⟨by simp, by simp, Nat.le_refl _, by simp⟩)); (first | exact (fun _ => rfl)); (first | (apply RdN.own; (focus ((repeat constructor); done)); (focus ((repeat (first | exact rfl | constructor)); done)))); (first | exact rfl); (first | omega | (simp; omega) | (simp; done)); (first | omega | (simp; omega) | (simp; done)); intro rk16 sk16 ck16 ok16) | (apply s_append_b; exact rfl; exact rfl; (focus ((repeat constructor); done)); (first | exact rfl | exact (List.append_nil _).symm); exact el_38; exact sz_5; exact zb_5; exact rfl; exact by_5; (first | exact SO.nil _ | assumption | (exact ⟨by simp, by simp, Nat.le_refl _, by simp⟩)); (first | exact (fun _ => rfl)); (first | (apply RdN.own; (focus ((repeat constructor); done)); (focus ((repeat (first | exact rfl | constructor)); done)))); (first | exact rfl); (first | omega | (simp; omega) | (simp; done)); (first | omega | (simp; omega) | (simp; done)); intro rk16 sk16 ck16 ok16) | (apply s_append_n; exact rfl; exact rfl; (focus ((repeat constructor); done)); exact el_38; exact sz_5; exact zb_5; exact rfl; exact by_5; (first | exact (fun _ => rfl)); (first | (apply RdN.own; (focus ((repeat constructor); done)); (focus ((repeat (first | exact rfl | constructor)); done)))); (first | exact rfl); (first | omega | (simp; omega) | (simp; done)); (first | omega | (simp; omega) | (simp; done)); intro rk16 sk16 ck16 ok16)); (apply ol_as; exact rfl; exact rfl); (apply ol_nil))
      | (refine cw_region_id 4 ?_; (apply ol_mv; exact rfl; exact rfl); (apply ol_val; exact rfl; apply stp_pur; apply s_sub64; exact rfl; exact rfl; omega); (apply ol_as; exact rfl; exact rfl); (apply ol_nil))
      | (refine cw_region_id 6 ?_; (apply ol_mv; exact rfl; exact rfl); (apply ol_as; exact rfl; exact rfl); (apply ol_nil))
      | (apply cw_cond_true; exact rfl; (first | exact rfl | assumption))
      | (apply cw_cond_false; exact rfl; (first | exact rfl | assumption))
      | apply cw_skip
      | apply cw_ret
      | apply cw_block
      | apply cw_exit
    refine ⟨⟨k + 1, rk16, ck16, sk16⟩, ⟨?_, View.le.refl _, ?_, ⟨hk', ?_⟩, by dsimp only; omega⟩⟩
    · dsimp only
      rw [show (7 - ((k + 1 : Nat) : Int)) = 7 - (k : Int) - 1 by omega]
      (repeat (first | exact trivial | refine And.intro rfl ?_))
    · dsimp only
      rw [hst, flat_append]
      (repeat (first | exact Pick.nil | (apply Pick.cons; (focus ((repeat (first | exact Spl.here | apply Spl.there)); done))) | exact Pick.refl | exact Pick.skip1 | exact Pick.skip2))
    · dsimp only
      rw [hst, flat_append]
      exact ok16
  · have : k = 8 := by omega
    subst this
    repeat' first
      | apply cw_seq
      | (refine cw_region_id 3 ?_; (apply ol_mv; exact rfl; exact rfl); (apply ol_val; exact rfl; apply stp_cmp; apply s_geq; exact rfl; exact rfl; all_goals (intro hc6; try (exfalso; (first | exact hc6 rfl | omega)))); all_goals (apply ol_nil))
      | (refine cw_region_id 5 ?_; (apply ol_mv; exact rfl; exact rfl); (apply ol_mv; exact rfl; exact rfl); (apply ol_mv; exact rfl; exact rfl); (apply ol_val; exact rfl; apply stp_pur; apply s_mul64; exact rfl; exact rfl; omega); (apply ol_val; exact rfl; apply stp_pur; apply s_shr; exact rfl; exact rfl; (first | decide | omega | (simp [IntKind.bits]; omega) | (simp [IntKind.bits]; done))); (apply ol_val; exact rfl; apply stp_pur; first | (apply s_conv; exact rfl; exact rfl; exact ti_5; (focus (apply wrap_u8; omega))) | (apply s_conv; exact rfl; exact rfl; exact ti_5; exact rfl)); (apply ol_val; exact rfl; apply s_buildSl; exact rfl; exact el_38; exact sz_5; exact zb_5; (focus ((repeat constructor); done)); exact rfl; exact rfl; (exact Nat.le_of_ble_eq_true rfl); (focus ((repeat constructor); done)); (focus ((repeat (first | exact rfl | constructor)); done)); intro bk15); (apply ol_val; exact rfl; first | (apply s_append_e; exact rfl; exact rfl; (focus ((repeat constructor); done)); exact el_38; exact sz_5; exact zb_5; exact rfl; exact by_5; (first | exact (fun _ => rfl)); (first | (apply RdN.own; (focus ((repeat constructor); done)); (focus ((repeat (first | exact rfl | constructor)); done)))); (first | exact rfl); (first | omega | (simp; omega) | (simp; done)); (first | omega | (simp; omega) | (simp; done)); intro rk16 sk16 ck16 ok16) | (apply s_append_r; exact rfl; exact rfl; (focus ((repeat constructor); done)); (first | exact rfl | exact (List.append_nil _).symm); exact el_38; exact sz_5; exact zb_5; exact rfl; exact by_5; (first | exact SO.nil _ | assumption | (exact ⟨by simp, by simp, Nat.le_refl _, by simp⟩)); (first | exact (fun _ => rfl)); (first | (apply RdN.own; (focus ((repeat constructor); done)); (focus ((repeat (first | exact rfl | constructor)); done)))); (first | exact rfl); (first | omega | (simp; omega) | (simp; done)); (first | omega | (simp; omega) | (simp; done)); intro rk16 sk16 ck16 ok16) | (apply s_append_b; exact rfl; exact rfl; (focus ((repeat constructor); done)); (first | exact rfl | exact (List.append_nil _).symm); exact el_38; exact sz_5; exact zb_5; exact rfl; exact by_5; (first | exact SO.nil _ | assumption | (exact ⟨by simp, by simp, Nat.le_refl _, by simp⟩)); (first | exact (fun _ => rfl)); (first | (apply RdN.own; (focus ((repeat constructor); done)); (focus ((repeat (first | exact rfl | constructor)); done)))); (first | exact rfl); (first | omega | (simp; omega) | (simp; done)); (first | omega | (simp; omega) | (simp; done)); intro rk16 sk16 ck16 ok16) | (apply s_append_n; exact rfl; exact rfl; (focus ((repeat constructor); done)); exact el_38; exact sz_5; exact zb_5; exact rfl; exact by_5; (first | exact (fun _ => rfl)); (first | (apply RdN.own; (focus ((repeat constructor); done)); (focus ((repeat (first | exact rfl | constructor)); done)))); (first | exact rfl); (first | omega | (simp; omega) | (simp; done)); (first | omega | (simp; omega) | (simp; done)); intro rk16 sk16 ck16 ok16)); (apply ol_as; exact rfl; exact rfl); (apply ol_nil))
      | (refine cw_region_id 4 ?_; (apply ol_mv; exact rfl; exact rfl); (apply ol_val; exact rfl; apply stp_pur; apply s_sub64; exact rfl; exact rfl; omega); (apply ol_as; exact rfl; exact rfl); (apply ol_nil))
      | (refine cw_region_id 6 ?_; (apply ol_mv; exact rfl; exact rfl); (apply ol_as; exact rfl; exact rfl); (apply ol_nil))
      | (apply cw_cond_true; exact rfl; (first | exact rfl | assumption))
      | (apply cw_cond_false; exact rfl; (first | exact rfl | assumption))
      | apply cw_skip
      | apply cw_ret
      | apply cw_block
      | apply cw_exit
    refine ends [⟨r, flat (eK .u8) (be8 n) ++ sp, 5⟩] (RVal.tmp rfl RVal.nil) (by (repeat (first | exact Pick.nil | (apply Pick.cons; (focus ((repeat (first | exact Spl.here | apply Spl.there)); done))) | exact Pick.refl | exact Pick.skip1 | exact Pick.skip2))) ?_
    refine ⟨r, none, c, sp, ?_, rfl, ?_⟩
    · rw [be8_length]; rfl
    · rw [be8_length]; exact so
end Go.Proofs.YtkbbbflojebfgaaDoor

/-
  The walks of the words of a block.
-/
namespace Go.Proofs.YtkbbbflojebfgaaDoor
set_option maxRecDepth 20000
set_option linter.unusedSimpArgs false
set_option linter.unusedVariables false
open Go Go.Fw
attribute [local irreducible] CW OL OD FX Stp FnC Ret
set_option maxHeartbeats 800000

def isB (p : List Int) : Prop := ∀ i, 0 ≤ p.getD i 0 ∧ p.getD i 0 ≤ 255
theorem SlA.getK {M : View} {k : IntKind} {a : Option Addr} {p : List Int} {b o : Nat} (s : SlA M (eK k) 1 a p b o) {i : Nat} (h : i < p.length) : GetN (M.cell b) (o + i * 1) 1 [.int k (p.getD i 0)] := by
  have := s.cells i h
  rw [show p.getD i 0 = p[i] by simp [List.getD, List.getElem?_eq_getElem h]]
  exact this

def wA (p : List Int) (i k : Nat) : List Int := words p i ++ [wordN p i k] ++ List.replicate (63 - i) 0
theorem wA_length {p : List Int} {i k : Nat} (h : i < 16) : (wA p i k).length = 64 := by simp [wA, words_length]; omega
theorem wA_get {p : List Int} {i k : Nat} : (wA p i k).getD i 0 = wordN p i k := by
  simp [wA, List.getD, words_length]
theorem wA_set {p : List Int} {i k : Nat} (v : Int) : (wA p i k).set i v = words p i ++ [v] ++ List.replicate (63 - i) 0 := by
  have h := words_length p i
  simp only [wA, List.append_assoc]
  rw [List.set_append_right _ _ (by omega), h, Nat.sub_self]
  rfl
theorem wA_zero {p : List Int} {i : Nat} (h : i < 16) : words p i ++ List.replicate (64 - i) 0 = wA p i 0 := by
  unfold wA
  rw [show 64 - i = (63 - i) + 1 by omega, List.replicate_succ, List.append_assoc]
  rfl
theorem wA_four {p : List Int} {i : Nat} (h : i < 16) : wA p i 4 = words p (i + 1) ++ List.replicate (64 - (i + 1)) 0 := by
  unfold wA
  rw [show 64 - (i + 1) = 63 - i by omega]
  rfl
def sA (p : List Int) (k : Nat) : List Int := sched (words p 16) k ++ List.replicate (48 - k) 0
theorem sched_len (p : List Int) (k : Nat) : (sched (words p 16) k).length = 16 + k := by rw [sched_length, words_length]
theorem sA_length {p : List Int} {k : Nat} (h : k ≤ 48) : (sA p k).length = 64 := by simp [sA, sched_len]; omega
theorem getD_left {A B : List Int} {i : Nat} (h : i < A.length) : (A ++ B).getD i 0 = A.getD i 0 := by
  simp [List.getD, List.getElem?_append_left h]
theorem sA_get {p : List Int} {k : Nat} {j : Int} (h : 0 ≤ j ∧ j < 16 + k) : (sA p k).getD j.toNat 0 = (sched (words p 16) k).getD j.toNat 0 := getD_left (by rw [sched_len]; omega)
theorem next_eq (p : List Int) (k : Nat) {V : List Int} (hV : ∀ j : Int, 0 ≤ j ∧ j < 16 + k → V.getD j.toNat 0 = (sched (words p 16) k).getD j.toNat 0) :
    nextW (sched (words p 16) k) = wr (wr (wr (V.getD (((16 + k : Nat) : Int) - 16).toNat 0 + sg0 (V.getD (((16 + k : Nat) : Int) - 15).toNat 0)) + V.getD (((16 + k : Nat) : Int) - 7).toNat 0) + sg1 (V.getD (((16 + k : Nat) : Int) - 2).toNat 0)) := by
  rw [hV _ (by omega), hV _ (by omega), hV _ (by omega), hV _ (by omega)]
  unfold nextW
  rw [sched_len, show (((16 + k : Nat) : Int) - 16).toNat = 16 + k - 16 by omega, show (((16 + k : Nat) : Int) - 15).toNat = 16 + k - 15 by omega, show (((16 + k : Nat) : Int) - 7).toNat = 16 + k - 7 by omega, show (((16 + k : Nat) : Int) - 2).toNat = 16 + k - 2 by omega]
theorem sA_succ (p : List Int) {k : Nat} (hk : k < 48) : sA p (k + 1) = (sA p k).set (16 + k) (nextW (sched (words p 16) k)) := by
  unfold sA
  rw [set_fill (sched_len p k) (by omega), show 48 - k - 1 = 48 - (k + 1) by omega]
  rfl

theorem schedule_spec {M : View} {w : World} (hM : View.le M (View.of w)) {p : List Int} {n c : Nat} (hn : p.length = n) (h64 : n = 64) (hc : 64 ≤ c) (hb : isB p) {a : Option Addr} {b o : Nat} (s : SlA M (eK .u8) 1 a p b o) :
    FnC Tryd.prog 53 [.slice a n c] w (fun v _ => v = .agg (flat (eK .u32) (sched (words p 16) 48)).toArray) := by
  subst hn
  refine enterF (M := M) Tryd.func53 rfl rfl rfl rfl hM ?_
  repeat' first
    | apply cw_seq
    | (refine cw_region_id 0 ?_; (apply ol_val; exact rfl; apply s_allocK; exact zk_88; intro bk2); (apply ol_nil))
    | (refine cw_region_id 1 ?_; (apply ol_val; exact rfl; apply s_allocK; exact zk_88; intro bk3); (apply ol_nil))
    | (refine cw_region_id 2 ?_; (apply ol_mv; exact rfl; exact rfl); (apply ol_nil))
    | (apply cw_cond_true; exact rfl; (first | exact rfl | assumption))
    | (apply cw_cond_false; exact rfl; (first | exact rfl | assumption))
    | apply cw_skip
    | apply cw_ret
    | apply cw_block
    | apply cw_exit
  refine cw_loopK (σ := Nat) [0, 2, 3] (by (repeat (first | exact Keep.nil | (apply Keep.cons; exact rfl)))) (fun i => [(12, .int .i64 i)]) (fun _ => M) (fun i => [⟨some bk3, flat (eK .u32) (words p i ++ List.replicate (64 - i) 0), 88⟩, ⟨some bk2, flat (eK .u32) (List.replicate 64 0), 88⟩]) (fun i => i ≤ 16) (fun i => 16 - i) 0 (by (repeat (first | exact trivial | refine And.intro rfl ?_))) (View.le.refl _) (by (repeat (first | exact Pick.nil | (apply Pick.cons; (focus ((repeat (first | exact Spl.here | apply Spl.there)); done))) | exact Pick.refl | exact Pick.skip1 | exact Pick.skip2))) (by omega) ?_
  intro i hi
  try dsimp only
  by_cases hi' : i < 16
  · rw [wA_zero hi']
    have hsl : slicedA a (4 * i) c 1 = some ⟨b, o + 4 * i * 1, none⟩ := by rw [s.at_ (by omega), slicedA_some (by omega)]
    repeat' first
      | apply cw_seq
      | (refine cw_region_id 3 ?_; (apply ol_val; exact rfl; apply stp_cmp; apply s_lss; exact rfl; exact rfl; all_goals (intro hc13; try (exfalso; (first | exact hc13 rfl | omega)))); all_goals (apply ol_nil))
      | (refine cw_region_id 4 ?_; (apply ol_mv; exact rfl; exact rfl); (apply ol_as; exact rfl; exact rfl); (apply ol_nil))
      | (refine cw_region_id 5 ?_; (apply ol_mv; exact rfl; exact rfl); (apply ol_mv; exact rfl; exact rfl); (apply ol_val; exact rfl; apply stp_pur; apply s_mul64; exact rfl; exact rfl; omega); (apply ol_mv; exact rfl; exact rfl); (apply ol_val; exact rfl; apply stp_pur; apply s_mul64; exact rfl; exact rfl; omega); (apply ol_val; exact rfl; apply stp_pur; apply s_add64; exact rfl; exact rfl; omega); (apply ol_val; exact rfl; apply stp_pur; apply s_slice; exact rfl; exact el_38; exact sz_5; exact Exists.intro _ rfl; exact Exists.intro _ rfl; exact rfl; (intro h; first | exact rfl | cases h); (first | omega | (simp; omega) | (simp; done)); (first | omega | (simp; omega) | (simp; done)); (first | omega | (simp; omega) | (simp; done))); (apply ol_val; exact rfl; apply stp_pur; apply s_len; exact rfl; exact el_38); (apply ol_mv; exact rfl; exact rfl); (apply ol_nil))
      | (refine cw_region_id 11 ?_; (apply ol_as; exact rfl; exact rfl); (apply ol_nil))
      | (apply cw_cond_true; exact rfl; (first | exact rfl | assumption))
      | (apply cw_cond_false; exact rfl; (first | exact rfl | assumption))
      | apply cw_skip
      | apply cw_ret
      | apply cw_block
      | apply cw_exit
    refine cw_loopK (σ := Nat) [0, 2, 3, 4, 12, 21, 22] (by (repeat (first | exact Keep.nil | (apply Keep.cons; exact rfl)))) (fun k => [(23, .int .i64 k)]) (fun _ => M) (fun k => [⟨some bk3, flat (eK .u32) (wA p i k), 88⟩, ⟨some bk2, flat (eK .u32) (List.replicate 64 0), 88⟩]) (fun k => k ≤ 4) (fun k => 4 - k) 0 (by (repeat (first | exact trivial | refine And.intro rfl ?_))) (View.le.refl _) (by (repeat (first | exact Pick.nil | (apply Pick.cons; (focus ((repeat (first | exact Spl.here | apply Spl.there)); done))) | exact Pick.refl | exact Pick.skip1 | exact Pick.skip2))) (by omega) ?_
    intro k hk
    try dsimp only
    by_cases hk' : k < 4
    · have hL := wA_length (p := p) (i := i) (k := k) hi'
      have hg := hb (4 * i + k)
      have hst : wA p i (k + 1) = (wA p i k).set i (Go.bits .or .u32 (wr ((wA p i k).getD i 0 * 2 ^ 8)) (p.getD (4 * i + k) 0)) := by
        rw [wA_set, wA_get, or_byte hg]
        rfl
      have hcell : GetN (M.cell b) (o + 4 * i * 1 + k * 1) 1 [.int .u8 (p.getD (4 * i + k) 0)] := by
        have := SlA.getK s (i := 4 * i + k) (by omega)
        rwa [show o + (4 * i + k) * 1 = o + 4 * i * 1 + k * 1 by omega] at this
      generalize wA p i k = L at *
      repeat' first
        | apply cw_seq
        | (refine cw_region_id 6 ?_; (apply ol_val; exact rfl; apply stp_cmp; apply s_lss; exact rfl; exact rfl; all_goals (intro hc24; try (exfalso; (first | exact hc24 rfl | omega)))); all_goals (apply ol_nil))
        | (refine cw_region_id 7 ?_; (apply ol_val; exact rfl; apply stp_pur; first | (apply s_indexK; exact rfl; exact rfl; exact el_38; exact sz_5; (first | exact rfl | exact hsl); omega) | (apply s_indexO; exact rfl; exact rfl; exact el_38; exact sz_5; (first | exact rfl | exact hsl); omega)); (apply ol_ld; exact rfl; exact rfl; exact rfl; (first | (apply RdN.own; (focus ((repeat constructor); done)); (first | exact GetN.cons rfl GetN.nil | (apply getN_ints_app; (first | omega | (simp; omega) | (simp; done))) | (apply getN_ints; (first | omega | (simp; omega) | (simp; done))))) | (apply RdN.view; exact hcell) | (apply RdN.own; (focus ((repeat constructor); done)); (apply getNK0; omega)))); (apply ol_as; exact rfl; exact rfl); (apply ol_nil))
        | (refine cw_region_id 8 ?_; (apply ol_mv; exact rfl; exact rfl); (apply ol_mv; exact rfl; exact rfl); (apply ol_val; exact rfl; apply stp_pur; first | (apply s_indexAK; exact rfl; exact rfl; exact ar_88; exact sz_26; omega) | (apply s_indexAO; exact rfl; exact rfl; exact ar_88; exact sz_26; omega)); (apply ol_ld; exact rfl; exact rfl; exact rfl; (first | (apply RdN.own; (focus ((repeat constructor); done)); (first | exact GetN.cons rfl GetN.nil | (apply getN_ints_app; (first | omega | (simp; omega) | (simp; done))) | (apply getN_ints; (first | omega | (simp; omega) | (simp; done))))) | (apply RdN.view; exact hcell) | (apply RdN.own; (focus ((repeat constructor); done)); (apply getNK0; omega)))); (apply ol_val; exact rfl; apply stp_pur; apply s_shlW; exact rfl; exact rfl; (first | decide | omega | (simp [IntKind.bits]; omega) | (simp [IntKind.bits]; done))); (apply ol_mv; exact rfl; exact rfl); (apply ol_val; exact rfl; apply stp_pur; first | (apply s_conv; exact rfl; exact rfl; exact ti_26; (focus (apply wrap_u32; omega))) | (apply s_conv; exact rfl; exact rfl; exact ti_26; exact rfl)); (apply ol_val; exact rfl; apply stp_pur; apply s_or; exact rfl; exact rfl); (apply ol_val; exact rfl; apply stp_pur; first | (apply s_indexAK; exact rfl; exact rfl; exact ar_88; exact sz_26; omega) | (apply s_indexAO; exact rfl; exact rfl; exact ar_88; exact sz_26; omega)); (apply ol_eff; apply s_store1; exact rfl; exact rfl; exact sz_26; exact rfl; (focus ((repeat constructor); done)); (first | (focus ((repeat constructor); done)) | (apply setAt_ints_app; (first | omega | (simp; omega) | (simp; done))) | (apply setAt_ints; (first | omega | (simp; omega) | (simp; done))) | (apply setAtK0; omega) | (apply SetAt.set; (first | omega | (simp; omega) | (simp; done))))); (apply ol_nil))
        | (refine cw_region_id 9 ?_; (apply ol_val; exact rfl; apply stp_pur; apply s_add64; exact rfl; exact rfl; omega); (apply ol_mv; exact rfl; exact rfl); (apply ol_nil))
        | (refine cw_region_id 10 ?_; (apply ol_val; exact rfl; apply stp_pur; apply s_add64; exact rfl; exact rfl; omega); (apply ol_mv; exact rfl; exact rfl); (apply ol_nil))
        | (apply cw_cond_true; exact rfl; (first | exact rfl | assumption))
        | (apply cw_cond_false; exact rfl; (first | exact rfl | assumption))
        | apply cw_skip
        | apply cw_ret
        | apply cw_block
        | apply cw_exit
      refine ⟨k + 1, ⟨by (repeat (first | exact trivial | refine And.intro rfl ?_)), View.le.refl _, ?_, hk', by omega⟩⟩
      rw [hst]
      (repeat (first | exact Pick.nil | (apply Pick.cons; (focus ((repeat (first | exact Spl.here | apply Spl.there)); done))) | exact Pick.refl | exact Pick.skip1 | exact Pick.skip2))
    · have : k = 4 := by omega
      subst this
      repeat' first
        | apply cw_seq
        | (refine cw_region_id 6 ?_; (apply ol_val; exact rfl; apply stp_cmp; apply s_lss; exact rfl; exact rfl; all_goals (intro hc24; try (exfalso; (first | exact hc24 rfl | omega)))); all_goals (apply ol_nil))
        | (refine cw_region_id 7 ?_; (apply ol_val; exact rfl; apply stp_pur; first | (apply s_indexK; exact rfl; exact rfl; exact el_38; exact sz_5; (first | exact rfl); omega) | (apply s_indexO; exact rfl; exact rfl; exact el_38; exact sz_5; (first | exact rfl); omega)); (apply ol_ld; exact rfl; exact rfl; exact rfl; (apply RdN.own; (focus ((repeat constructor); done)); (first | exact GetN.cons rfl GetN.nil | (apply getN_ints_app; (first | omega | (simp; omega) | (simp; done))) | (apply getN_ints; (first | omega | (simp; omega) | (simp; done)))))); (apply ol_as; exact rfl; exact rfl); (apply ol_nil))
        | (refine cw_region_id 8 ?_; (apply ol_mv; exact rfl; exact rfl); (apply ol_mv; exact rfl; exact rfl); (apply ol_val; exact rfl; apply stp_pur; first | (apply s_indexAK; exact rfl; exact rfl; exact ar_88; exact sz_26; omega) | (apply s_indexAO; exact rfl; exact rfl; exact ar_88; exact sz_26; omega)); (apply ol_ld; exact rfl; exact rfl; exact rfl; (apply RdN.own; (focus ((repeat constructor); done)); (first | exact GetN.cons rfl GetN.nil | (apply getN_ints_app; (first | omega | (simp; omega) | (simp; done))) | (apply getN_ints; (first | omega | (simp; omega) | (simp; done)))))); (apply ol_val; exact rfl; apply stp_pur; apply s_shlW; exact rfl; exact rfl; (first | decide | omega | (simp [IntKind.bits]; omega) | (simp [IntKind.bits]; done))); (apply ol_mv; exact rfl; exact rfl); (apply ol_val; exact rfl; apply stp_pur; first | (apply s_conv; exact rfl; exact rfl; exact ti_26; (focus (apply wrap_u32; omega))) | (apply s_conv; exact rfl; exact rfl; exact ti_26; exact rfl)); (apply ol_val; exact rfl; apply stp_pur; apply s_or; exact rfl; exact rfl); (apply ol_val; exact rfl; apply stp_pur; first | (apply s_indexAK; exact rfl; exact rfl; exact ar_88; exact sz_26; omega) | (apply s_indexAO; exact rfl; exact rfl; exact ar_88; exact sz_26; omega)); (apply ol_eff; apply s_store1; exact rfl; exact rfl; exact sz_26; exact rfl; (focus ((repeat constructor); done)); (first | (focus ((repeat constructor); done)) | (apply setAt_ints_app; (first | omega | (simp; omega) | (simp; done))) | (apply setAt_ints; (first | omega | (simp; omega) | (simp; done))) | (apply SetAt.set; (first | omega | (simp; omega) | (simp; done))))); (apply ol_nil))
        | (refine cw_region_id 9 ?_; (apply ol_val; exact rfl; apply stp_pur; apply s_add64; exact rfl; exact rfl; omega); (apply ol_mv; exact rfl; exact rfl); (apply ol_nil))
        | (refine cw_region_id 10 ?_; (apply ol_val; exact rfl; apply stp_pur; apply s_add64; exact rfl; exact rfl; omega); (apply ol_mv; exact rfl; exact rfl); (apply ol_nil))
        | (apply cw_cond_true; exact rfl; (first | exact rfl | assumption))
        | (apply cw_cond_false; exact rfl; (first | exact rfl | assumption))
        | apply cw_skip
        | apply cw_ret
        | apply cw_block
        | apply cw_exit
      refine ⟨i + 1, ⟨by (repeat (first | exact trivial | refine And.intro rfl ?_)), View.le.refl _, ?_, hi', by omega⟩⟩
      rw [← wA_four hi']
      (repeat (first | exact Pick.nil | (apply Pick.cons; (focus ((repeat (first | exact Spl.here | apply Spl.there)); done))) | exact Pick.refl | exact Pick.skip1 | exact Pick.skip2))
  · have : i = 16 := by omega
    subst this
    repeat' first
      | apply cw_seq
      | (refine cw_region_id 3 ?_; (apply ol_val; exact rfl; apply stp_cmp; apply s_lss; exact rfl; exact rfl; all_goals (intro hc13; try (exfalso; (first | exact hc13 rfl | omega)))); all_goals (apply ol_nil))
      | (refine cw_region_id 4 ?_; (apply ol_mv; exact rfl; exact rfl); (apply ol_as; exact rfl; exact rfl); (apply ol_nil))
      | (refine cw_region_id 5 ?_; (apply ol_mv; exact rfl; exact rfl); (apply ol_mv; exact rfl; exact rfl); (apply ol_val; exact rfl; apply stp_pur; apply s_mul64; exact rfl; exact rfl; omega); (apply ol_mv; exact rfl; exact rfl); (apply ol_val; exact rfl; apply stp_pur; apply s_mul64; exact rfl; exact rfl; omega); (apply ol_val; exact rfl; apply stp_pur; apply s_add64; exact rfl; exact rfl; omega); (apply ol_val; exact rfl; apply stp_pur; apply s_slice; exact rfl; exact el_38; exact sz_5; exact Exists.intro _ rfl; exact Exists.intro _ rfl; exact rfl; (intro h; first | exact rfl | cases h); (first | omega | (simp; omega) | (simp; done)); (first | omega | (simp; omega) | (simp; done)); (first | omega | (simp; omega) | (simp; done))); (apply ol_val; exact rfl; apply stp_pur; apply s_len; exact rfl; exact el_38); (apply ol_mv; exact rfl; exact rfl); (apply ol_nil))
      | (refine cw_region_id 11 ?_; (apply ol_as; exact rfl; exact rfl); (apply ol_nil))
      | (apply cw_cond_true; exact rfl; (first | exact rfl | assumption))
      | (apply cw_cond_false; exact rfl; (first | exact rfl | assumption))
      | apply cw_skip
      | apply cw_ret
      | apply cw_block
      | apply cw_exit
    refine cw_loopK (σ := Nat) [2, 3] (by (repeat (first | exact Keep.nil | (apply Keep.cons; exact rfl)))) (fun k => [(7, .int .i64 ((16 + k : Nat) : Int))]) (fun _ => M) (fun k => [⟨some bk3, flat (eK .u32) (sA p k), 88⟩, ⟨some bk2, flat (eK .u32) (List.replicate 64 0), 88⟩]) (fun k => k ≤ 48) (fun k => 48 - k) 0 (by (repeat (first | exact trivial | refine And.intro rfl ?_))) (View.le.refl _) (by (repeat (first | exact Pick.nil | (apply Pick.cons; (focus ((repeat (first | exact Spl.here | apply Spl.there)); done))) | exact Pick.refl | exact Pick.skip1 | exact Pick.skip2))) (by omega) ?_
    intro k hk
    try dsimp only
    have hL := sA_length (p := p) hk
    by_cases hk' : k < 48
    · have hst := sA_succ p hk'
      rw [next_eq p k (V := sA p k) (fun j hj => sA_get hj)] at hst
      generalize sA p k = L at *
      repeat' first
        | apply cw_seq
        | (refine cw_region_id 12 ?_; (apply ol_mv; exact rfl; exact rfl); (apply ol_val; exact rfl; apply stp_cmp; apply s_lss; exact rfl; exact rfl; all_goals (intro hc39; try (exfalso; (first | exact hc39 rfl | omega)))); all_goals (apply ol_nil))
        | (refine cw_draw (id := 14) 10 (.mv 0 (.mv 1 (.mv 2 (.mv 3 (.mv 4 (.mv 5 (.mv 6 (.mv 7 (.mv 8 (.mv 9 (PT.nil))))))))))) mixed (by kernel_rfl) ?_; (apply od_mv; exact rfl; exact rfl; apply s_move; exact rfl); (apply od_mv; exact rfl; exact rfl; apply s_sub64; exact rfl; exact rfl; omega); (apply od_mv; exact rfl; exact rfl; first | (apply s_indexAK; exact rfl; exact rfl; exact ar_88; exact sz_26; omega) | (apply s_indexAO; exact rfl; exact rfl; exact ar_88; exact sz_26; omega)); (apply od_mv; exact rfl; exact rfl; apply s_load1; exact rfl; exact rfl; (first | (apply RdN.own; (focus ((repeat constructor); done)); (first | exact GetN.cons rfl GetN.nil | (apply getN_ints_app; (first | omega | (simp; omega) | (simp; done))) | (apply getN_ints; (first | omega | (simp; omega) | (simp; done))))) | (apply RdN.own; (focus ((repeat constructor); done)); (apply getNK0; omega)))); (apply od_mv; exact rfl; exact rfl; apply s_move; exact rfl); (apply od_mv; exact rfl; exact rfl; apply s_sub64; exact rfl; exact rfl; omega); (apply od_mv; exact rfl; exact rfl; first | (apply s_indexAK; exact rfl; exact rfl; exact ar_88; exact sz_26; omega) | (apply s_indexAO; exact rfl; exact rfl; exact ar_88; exact sz_26; omega)); (apply od_mv; exact rfl; exact rfl; apply s_load1; exact rfl; exact rfl; (first | (apply RdN.own; (focus ((repeat constructor); done)); (first | exact GetN.cons rfl GetN.nil | (apply getN_ints_app; (first | omega | (simp; omega) | (simp; done))) | (apply getN_ints; (first | omega | (simp; omega) | (simp; done))))) | (apply RdN.own; (focus ((repeat constructor); done)); (apply getNK0; omega)))); (apply od_mv; exact rfl; exact rfl; apply s_assign; exact rfl); (apply od_mv; exact rfl; exact rfl; apply s_assign; exact rfl); (apply od_nil; (first | exact Wk.refl _ _ | (focus (apply Wk.mk; (first | exact View.le.refl _ | assumption | exact View.le.trans (by assumption) (by assumption)); (repeat constructor); done)))); (apply ol_nil))
        | (refine cw_region_id 15 ?_; (apply ol_mv; exact rfl; exact rfl); (apply ol_val; exact rfl; apply s_callv; exact rfl; exact gf_54; (intro w' hw'; exact right_spec w' _ _ (by decide))); (apply ol_mv; exact rfl; exact rfl); (apply ol_val; exact rfl; apply s_callv; exact rfl; exact gf_54; (intro w' hw'; exact right_spec w' _ _ (by decide))); (apply ol_val; exact rfl; apply stp_pur; apply s_xor; exact rfl; exact rfl); (apply ol_mv; exact rfl; exact rfl); (apply ol_val; exact rfl; apply stp_pur; apply s_shr; exact rfl; exact rfl; (first | decide | omega | (simp [IntKind.bits]; omega) | (simp [IntKind.bits]; done))); (apply ol_val; exact rfl; apply stp_pur; apply s_xor; exact rfl; exact rfl); (apply ol_as; exact rfl; exact rfl); (apply ol_nil))
        | (refine cw_region_id 16 ?_; (apply ol_mv; exact rfl; exact rfl); (apply ol_val; exact rfl; apply s_callv; exact rfl; exact gf_54; (intro w' hw'; exact right_spec w' _ _ (by decide))); (apply ol_mv; exact rfl; exact rfl); (apply ol_val; exact rfl; apply s_callv; exact rfl; exact gf_54; (intro w' hw'; exact right_spec w' _ _ (by decide))); (apply ol_val; exact rfl; apply stp_pur; apply s_xor; exact rfl; exact rfl); (apply ol_mv; exact rfl; exact rfl); (apply ol_val; exact rfl; apply stp_pur; apply s_shr; exact rfl; exact rfl; (first | decide | omega | (simp [IntKind.bits]; omega) | (simp [IntKind.bits]; done))); (apply ol_val; exact rfl; apply stp_pur; apply s_xor; exact rfl; exact rfl); (apply ol_as; exact rfl; exact rfl); (apply ol_nil))
        | (refine cw_draw (id := 17) 15 (.mv 0 (.mv 1 (.mv 2 (.mv 3 (.mv 4 (.mv 5 (.mv 6 (.mv 7 (.mv 8 (.mv 9 (.mv 10 (.mv 11 (.mv 12 (.mv 13 (.mv 14 (PT.nil)))))))))))))))) mixed (by kernel_rfl) ?_; (apply od_mv; exact rfl; exact rfl; apply s_move; exact rfl); (apply od_mv; exact rfl; exact rfl; apply s_move; exact rfl); (apply od_mv; exact rfl; exact rfl; apply s_sub64; exact rfl; exact rfl; omega); (apply od_mv; exact rfl; exact rfl; first | (apply s_indexAK; exact rfl; exact rfl; exact ar_88; exact sz_26; omega) | (apply s_indexAO; exact rfl; exact rfl; exact ar_88; exact sz_26; omega)); (apply od_mv; exact rfl; exact rfl; apply s_load1; exact rfl; exact rfl; (first | (apply RdN.own; (focus ((repeat constructor); done)); (first | exact GetN.cons rfl GetN.nil | (apply getN_ints_app; (first | omega | (simp; omega) | (simp; done))) | (apply getN_ints; (first | omega | (simp; omega) | (simp; done))))) | (apply RdN.own; (focus ((repeat constructor); done)); (apply getNK0; omega)))); (apply od_mv; exact rfl; exact rfl; apply s_move; exact rfl); (apply od_mv; exact rfl; exact rfl; apply s_addW; exact rfl; exact rfl); (apply od_mv; exact rfl; exact rfl; apply s_move; exact rfl); (apply od_mv; exact rfl; exact rfl; apply s_sub64; exact rfl; exact rfl; omega); (apply od_mv; exact rfl; exact rfl; first | (apply s_indexAK; exact rfl; exact rfl; exact ar_88; exact sz_26; omega) | (apply s_indexAO; exact rfl; exact rfl; exact ar_88; exact sz_26; omega)); (apply od_mv; exact rfl; exact rfl; apply s_load1; exact rfl; exact rfl; (first | (apply RdN.own; (focus ((repeat constructor); done)); (first | exact GetN.cons rfl GetN.nil | (apply getN_ints_app; (first | omega | (simp; omega) | (simp; done))) | (apply getN_ints; (first | omega | (simp; omega) | (simp; done))))) | (apply RdN.own; (focus ((repeat constructor); done)); (apply getNK0; omega)))); (apply od_mv; exact rfl; exact rfl; apply s_addW; exact rfl; exact rfl); (apply od_mv; exact rfl; exact rfl; apply s_move; exact rfl); (apply od_mv; exact rfl; exact rfl; apply s_addW; exact rfl; exact rfl); (apply od_mv; exact rfl; exact rfl; first | (apply s_indexAK; exact rfl; exact rfl; exact ar_88; exact sz_26; omega) | (apply s_indexAO; exact rfl; exact rfl; exact ar_88; exact sz_26; omega)); (apply od_nil; (first | exact Wk.refl _ _ | (focus (apply Wk.mk; (first | exact View.le.refl _ | assumption | exact View.le.trans (by assumption) (by assumption)); (repeat constructor); done)))); (apply ol_eff; apply s_store1; exact rfl; exact rfl; exact sz_26; exact rfl; (focus ((repeat constructor); done)); (first | (focus ((repeat constructor); done)) | (apply setAt_ints_app; (first | omega | (simp; omega) | (simp; done))) | (apply setAt_ints; (first | omega | (simp; omega) | (simp; done))) | (apply setAtK0; omega) | (apply SetAt.set; (first | omega | (simp; omega) | (simp; done))))); (apply ol_nil))
        | (refine cw_region_id 13 ?_; (apply ol_mv; exact rfl; exact rfl); (apply ol_val; exact rfl; apply stp_pur; apply s_add64; exact rfl; exact rfl; omega); (apply ol_as; exact rfl; exact rfl); (apply ol_nil))
        | (refine cw_region_id 18 ?_; (apply ol_ldN; exact rfl; exact rfl; exact rfl; exact sz_88; (first | (apply RdN.own; (focus ((repeat constructor); done)); (apply getNK_all; (first | assumption | (rw [List.length_replicate])))) | (apply RdN.own; (focus ((repeat constructor); done)); (apply getNK0; omega)))); (apply ol_eff; apply s_storeK; exact rfl; exact rfl; exact sz_88; (focus ((repeat constructor); done)); (first | assumption | (rw [List.length_replicate])); (first | assumption | (rw [List.length_replicate]))); (apply ol_nil))
        | (apply cw_cond_true; exact rfl; (first | exact rfl | assumption))
        | (apply cw_cond_false; exact rfl; (first | exact rfl | assumption))
        | apply cw_skip
        | apply cw_ret
        | apply cw_block
        | apply cw_exit
      refine ⟨k + 1, ⟨by (repeat (first | exact trivial | refine And.intro rfl ?_)), View.le.refl _, ?_, hk', by omega⟩⟩
      rw [hst]
      (repeat (first | exact Pick.nil | (apply Pick.cons; (focus ((repeat (first | exact Spl.here | apply Spl.there)); done))) | exact Pick.refl | exact Pick.skip1 | exact Pick.skip2))
    · have : k = 48 := by omega
      subst this
      have e : sA p 48 = sched (words p 16) 48 := by simp [sA]
      rw [e] at hL ⊢
      clear e
      generalize sched (words p 16) 48 = L at *
      repeat' first
        | apply cw_seq
        | (refine cw_region_id 12 ?_; (apply ol_mv; exact rfl; exact rfl); (apply ol_val; exact rfl; apply stp_cmp; apply s_lss; exact rfl; exact rfl; all_goals (intro hc39; try (exfalso; (first | exact hc39 rfl | omega)))); all_goals (apply ol_nil))
        | (refine cw_draw (id := 14) 10 (.mv 0 (.mv 1 (.mv 2 (.mv 3 (.mv 4 (.mv 5 (.mv 6 (.mv 7 (.mv 8 (.mv 9 (PT.nil))))))))))) mixed (by kernel_rfl) ?_; (apply od_mv; exact rfl; exact rfl; apply s_move; exact rfl); (apply od_mv; exact rfl; exact rfl; apply s_sub64; exact rfl; exact rfl; omega); (apply od_mv; exact rfl; exact rfl; first | (apply s_indexAK; exact rfl; exact rfl; exact ar_88; exact sz_26; omega) | (apply s_indexAO; exact rfl; exact rfl; exact ar_88; exact sz_26; omega)); (apply od_mv; exact rfl; exact rfl; apply s_load1; exact rfl; exact rfl; (apply RdN.own; (focus ((repeat constructor); done)); (first | exact GetN.cons rfl GetN.nil | (apply getN_ints_app; (first | omega | (simp; omega) | (simp; done))) | (apply getN_ints; (first | omega | (simp; omega) | (simp; done)))))); (apply od_mv; exact rfl; exact rfl; apply s_move; exact rfl); (apply od_mv; exact rfl; exact rfl; apply s_sub64; exact rfl; exact rfl; omega); (apply od_mv; exact rfl; exact rfl; first | (apply s_indexAK; exact rfl; exact rfl; exact ar_88; exact sz_26; omega) | (apply s_indexAO; exact rfl; exact rfl; exact ar_88; exact sz_26; omega)); (apply od_mv; exact rfl; exact rfl; apply s_load1; exact rfl; exact rfl; (apply RdN.own; (focus ((repeat constructor); done)); (first | exact GetN.cons rfl GetN.nil | (apply getN_ints_app; (first | omega | (simp; omega) | (simp; done))) | (apply getN_ints; (first | omega | (simp; omega) | (simp; done)))))); (apply od_mv; exact rfl; exact rfl; apply s_assign; exact rfl); (apply od_mv; exact rfl; exact rfl; apply s_assign; exact rfl); (apply od_nil; (first | exact Wk.refl _ _ | (focus (apply Wk.mk; (first | exact View.le.refl _ | assumption | exact View.le.trans (by assumption) (by assumption)); (repeat constructor); done)))); (apply ol_nil))
        | (refine cw_region_id 15 ?_; (apply ol_mv; exact rfl; exact rfl))
        | (refine cw_region_id 16 ?_; (apply ol_mv; exact rfl; exact rfl))
        | (refine cw_draw (id := 17) 15 (.mv 0 (.mv 1 (.mv 2 (.mv 3 (.mv 4 (.mv 5 (.mv 6 (.mv 7 (.mv 8 (.mv 9 (.mv 10 (.mv 11 (.mv 12 (.mv 13 (.mv 14 (PT.nil)))))))))))))))) mixed (by kernel_rfl) ?_; (apply od_mv; exact rfl; exact rfl; apply s_move; exact rfl); (apply od_mv; exact rfl; exact rfl; apply s_move; exact rfl); (apply od_mv; exact rfl; exact rfl; apply s_sub64; exact rfl; exact rfl; omega); (apply od_mv; exact rfl; exact rfl; first | (apply s_indexAK; exact rfl; exact rfl; exact ar_88; exact sz_26; omega) | (apply s_indexAO; exact rfl; exact rfl; exact ar_88; exact sz_26; omega)); (apply od_mv; exact rfl; exact rfl; apply s_load1; exact rfl; exact rfl; (apply RdN.own; (focus ((repeat constructor); done)); (first | exact GetN.cons rfl GetN.nil | (apply getN_ints_app; (first | omega | (simp; omega) | (simp; done))) | (apply getN_ints; (first | omega | (simp; omega) | (simp; done)))))); (apply od_mv; exact rfl; exact rfl; apply s_move; exact rfl); (apply od_mv; exact rfl; exact rfl; apply s_addW; exact rfl; exact rfl); (apply od_mv; exact rfl; exact rfl; apply s_move; exact rfl); (apply od_mv; exact rfl; exact rfl; apply s_sub64; exact rfl; exact rfl; omega); (apply od_mv; exact rfl; exact rfl; first | (apply s_indexAK; exact rfl; exact rfl; exact ar_88; exact sz_26; omega) | (apply s_indexAO; exact rfl; exact rfl; exact ar_88; exact sz_26; omega)); (apply od_mv; exact rfl; exact rfl; apply s_load1; exact rfl; exact rfl; (apply RdN.own; (focus ((repeat constructor); done)); (first | exact GetN.cons rfl GetN.nil | (apply getN_ints_app; (first | omega | (simp; omega) | (simp; done))) | (apply getN_ints; (first | omega | (simp; omega) | (simp; done)))))); (apply od_mv; exact rfl; exact rfl; apply s_addW; exact rfl; exact rfl); (apply od_mv; exact rfl; exact rfl; apply s_move; exact rfl); (apply od_mv; exact rfl; exact rfl; apply s_addW; exact rfl; exact rfl); (apply od_mv; exact rfl; exact rfl; first | (apply s_indexAK; exact rfl; exact rfl; exact ar_88; exact sz_26; omega) | (apply s_indexAO; exact rfl; exact rfl; exact ar_88; exact sz_26; omega)); (apply od_nil; (first | exact Wk.refl _ _ | (focus (apply Wk.mk; (first | exact View.le.refl _ | assumption | exact View.le.trans (by assumption) (by assumption)); (repeat constructor); done)))); (apply ol_eff; apply s_store1; exact rfl; exact rfl; exact sz_26; exact rfl; (focus ((repeat constructor); done)); (first | (focus ((repeat constructor); done)) | (apply setAt_ints_app; (first | omega | (simp; omega) | (simp; done))) | (apply setAt_ints; (first | omega | (simp; omega) | (simp; done))) | (apply SetAt.set; (first | omega | (simp; omega) | (simp; done))))); (apply ol_nil))
        | (refine cw_region_id 13 ?_; (apply ol_mv; exact rfl; exact rfl); (apply ol_val; exact rfl; apply stp_pur; apply s_add64; exact rfl; exact rfl; omega); (apply ol_as; exact rfl; exact rfl); (apply ol_nil))
        | (refine cw_region_id 18 ?_; (apply ol_ldN; exact rfl; exact rfl; exact rfl; exact sz_88; (apply RdN.own; (focus ((repeat constructor); done)); (apply getNK_all; (first | assumption | (rw [List.length_replicate]))))); (apply ol_eff; apply s_storeK; exact rfl; exact rfl; exact sz_88; (focus ((repeat constructor); done)); (first | assumption | (rw [List.length_replicate])); (first | assumption | (rw [List.length_replicate]))); (apply ol_nil))
        | (apply cw_cond_true; exact rfl; (first | exact rfl | assumption))
        | (apply cw_cond_false; exact rfl; (first | exact rfl | assumption))
        | apply cw_skip
        | apply cw_ret
        | apply cw_block
        | apply cw_exit
      refine ends [] (RVal.cellN rfl rfl rfl (RdN.own (by (repeat (first | exact Has.here | apply Has.there))) (getNK_all hL)) RVal.nil) Pick.nil ?_
      rfl
end Go.Proofs.YtkbbbflojebfgaaDoor

/-
  The walks of the words of a block, as the reference has them.
-/
namespace Go.Proofs.YtkbbbflojebfgaaDoor
set_option maxRecDepth 20000
set_option linter.unusedSimpArgs false
set_option linter.unusedVariables false
open Go Go.Fw
attribute [local irreducible] CW OL OD FX Stp FnC Ret
set_option maxHeartbeats 800000

theorem rwords_spec {M : View} {w : World} (hM : View.le M (View.of w)) {p : List Int} {n c : Nat} (hn : p.length = n) (h64 : n = 64) (hb : isB p) {a : Option Addr} {b o : Nat} (s : SlA M (eK .u8) 1 a p b o) :
    FnC Tryd.prog 47 [.slice a n c] w (RowRes (eK .u32) 1 26 (sched (words p 16) 48)) := by
  subst hn
  refine enterF (M := M) Tryd.func47 rfl rfl rfl rfl hM ?_
  refine cw_none 26 ?_
  repeat' first
    | apply cw_seq
    | (refine cw_region_id 0 ?_; (apply ol_as; exact rfl; exact rfl); (apply ol_nil))
    | (refine cw_region_id 1 ?_; (apply ol_as; exact rfl; exact rfl); (apply ol_nil))
    | (refine cw_region_id 2 ?_; (apply ol_as; exact rfl; exact rfl); (apply ol_nil))
    | (apply cw_cond_true; exact rfl; (first | exact rfl | assumption))
    | (apply cw_cond_false; exact rfl; (first | exact rfl | assumption))
    | apply cw_skip
    | apply cw_ret
    | apply cw_block
    | apply cw_exit
  refine cw_loopK (σ := RSt) [0] (by (repeat (first | exact Keep.nil | (apply Keep.cons; exact rfl)))) (fun s => [(3, .slice (base s.r none) s.k s.c), (4, .int .i64 s.k)]) (fun _ => M) (fun s => [⟨s.r, flat (eK .u32) (words p s.k) ++ s.sp, 26⟩]) (fun s => s.k ≤ 16 ∧ SO s.r s.k s.c (flat (eK .u32) (words p s.k)) s.sp 1) (fun s => 16 - s.k) ⟨0, none, 0, []⟩ (by (repeat (first | exact trivial | refine And.intro rfl ?_))) (View.le.refl _) (by (repeat (first | exact Pick.nil | (apply Pick.cons; (focus ((repeat (first | exact Spl.here | apply Spl.there)); done))) | exact Pick.refl | exact Pick.skip1 | exact Pick.skip2))) ⟨by decide, SO.nil 1⟩ ?_
  rintro ⟨i, r, c', sp⟩ ⟨hi, so⟩
  dsimp only at hi so
  dsimp only
  by_cases hi' : i < 16
  · have hst : words p (i + 1) = words p i ++ [wordN p i 4] := rfl
    have hwl := words_length p i
    generalize words p i = V at *
    repeat' first
      | apply cw_seq
      | (refine cw_region_id 3 ?_; (apply ol_mv; exact rfl; exact rfl); (apply ol_val; exact rfl; apply stp_cmp; apply s_lss; exact rfl; exact rfl; all_goals (intro hc13; try (exfalso; (first | exact hc13 rfl | omega)))); all_goals (apply ol_nil))
      | (refine cw_region_id 5 ?_; (apply ol_as; exact rfl; exact rfl); (apply ol_nil))
      | (refine cw_region_id 6 ?_; (apply ol_as; exact rfl; exact rfl); (apply ol_nil))
      | (refine cw_region_id 11 ?_; (apply ol_as; exact rfl; exact rfl); (apply ol_nil))
      | (apply cw_cond_true; exact rfl; (first | exact rfl | assumption))
      | (apply cw_cond_false; exact rfl; (first | exact rfl | assumption))
      | apply cw_skip
      | apply cw_ret
      | apply cw_block
      | apply cw_exit
    refine cw_loopK (σ := Nat) [0, 3, 4] (by (repeat (first | exact Keep.nil | (apply Keep.cons; exact rfl)))) (fun k => [(5, .int .u32 (wordN p i k)), (6, .int .i64 k)]) (fun _ => M) (fun k => [⟨r, flat (eK .u32) V ++ sp, 26⟩]) (fun k => k ≤ 4) (fun k => 4 - k) 0 (by (repeat (first | exact trivial | refine And.intro rfl ?_))) (View.le.refl _) (by (repeat (first | exact Pick.nil | (apply Pick.cons; (focus ((repeat (first | exact Spl.here | apply Spl.there)); done))) | exact Pick.refl | exact Pick.skip1 | exact Pick.skip2))) (by omega) ?_
    intro k hk
    try dsimp only
    by_cases hk' : k < 4
    · have hg := hb (4 * i + k)
      have hcell := SlA.getK s (i := 4 * i + k) (by omega)
      repeat' first
        | apply cw_seq
        | (refine cw_region_id 7 ?_; (apply ol_mv; exact rfl; exact rfl); (apply ol_val; exact rfl; apply stp_cmp; apply s_lss; exact rfl; exact rfl; all_goals (intro hc17; try (exfalso; (first | exact hc17 rfl | omega)))); all_goals (apply ol_nil))
        | (refine cw_region_id 9 ?_; (apply ol_mv; exact rfl; exact rfl); (apply ol_val; exact rfl; apply stp_pur; apply s_mulW; exact rfl; exact rfl); (apply ol_mv; exact rfl; exact rfl); (apply ol_mv; exact rfl; exact rfl); (apply ol_val; exact rfl; apply stp_pur; apply s_mul64; exact rfl; exact rfl; omega); (apply ol_mv; exact rfl; exact rfl); (apply ol_val; exact rfl; apply stp_pur; apply s_add64; exact rfl; exact rfl; omega); (apply ol_val; exact rfl; apply stp_pur; first | (apply s_indexK; exact rfl; exact rfl; exact el_38; exact sz_5; (first | exact rfl | exact s.at_ (by omega)); omega) | (apply s_indexO; exact rfl; exact rfl; exact el_38; exact sz_5; (first | exact rfl | exact s.at_ (by omega)); omega)); (apply ol_ld; exact rfl; exact rfl; exact rfl; (first | (apply RdN.own; (focus ((repeat constructor); done)); (first | exact GetN.cons rfl GetN.nil | (apply getN_ints_app; (first | omega | (simp; omega) | (simp; done))) | (apply getN_ints; (first | omega | (simp; omega) | (simp; done))))) | (apply RdN.view; exact hcell))); (apply ol_val; exact rfl; apply stp_pur; first | (apply s_conv; exact rfl; exact rfl; exact ti_26; (focus (apply wrap_u32; omega))) | (apply s_conv; exact rfl; exact rfl; exact ti_26; exact rfl)); (apply ol_val; exact rfl; apply stp_pur; apply s_addW; exact rfl; exact rfl); (apply ol_as; exact rfl; exact rfl); (apply ol_nil))
        | (refine cw_region_id 8 ?_; (apply ol_mv; exact rfl; exact rfl); (apply ol_val; exact rfl; apply stp_pur; apply s_add64; exact rfl; exact rfl; omega); (apply ol_as; exact rfl; exact rfl); (apply ol_nil))
        | (refine cw_region_id 10 ?_; (apply ol_mv; exact rfl; exact rfl); (apply ol_mv; exact rfl; exact rfl); (apply ol_val; exact rfl; apply s_buildSl; exact rfl; exact el_81; exact sz_26; exact zb_26; (focus ((repeat constructor); done)); exact rfl; exact rfl; (exact Nat.le_of_ble_eq_true rfl); (focus ((repeat constructor); done)); (focus ((repeat (first | exact rfl | constructor)); done)); intro bk33); (apply ol_val; exact rfl; first | (apply s_append_e; exact rfl; exact rfl; (focus ((repeat constructor); done)); exact el_81; exact sz_26; exact zb_26; exact rfl; exact by_26; (first | exact (fun _ => rfl) | (intro _; exact s.at_ (by omega))); (first | (apply RdN.own; (focus ((repeat constructor); done)); (focus ((repeat (first | exact rfl | constructor)); done)))); (first | exact rfl); (first | omega | (simp; omega) | (simp; done)); (first | omega | (simp; omega) | (simp; done)); intro rk34 sk34 ck34 ok34) | (apply s_append_r; exact rfl; exact rfl; (focus ((repeat constructor); done)); (first | exact rfl | exact (List.append_nil _).symm); exact el_81; exact sz_26; exact zb_26; exact rfl; exact by_26; (first | exact SO.nil _ | assumption | (exact ⟨by simp, by simp, Nat.le_refl _, by simp⟩)); (first | exact (fun _ => rfl) | (intro _; exact s.at_ (by omega))); (first | (apply RdN.own; (focus ((repeat constructor); done)); (focus ((repeat (first | exact rfl | constructor)); done)))); (first | exact rfl); (first | omega | (simp; omega) | (simp; done)); (first | omega | (simp; omega) | (simp; done)); intro rk34 sk34 ck34 ok34) | (apply s_append_b; exact rfl; exact rfl; (focus ((repeat constructor); done)); (first | exact rfl | exact (List.append_nil _).symm); exact el_81; exact sz_26; exact zb_26; exact rfl; exact by_26; (first | exact SO.nil _ | assumption | (exact ⟨by simp, by simp, Nat.le_refl _, by simp⟩)); (first | exact (fun _ => rfl) | (intro _; exact s.at_ (by omega))); (first | (apply RdN.own; (focus ((repeat constructor); done)); (focus ((repeat (first | exact rfl | constructor)); done)))); (first | exact rfl); (first | omega | (simp; omega) | (simp; done)); (first | omega | (simp; omega) | (simp; done)); intro rk34 sk34 ck34 ok34) | (apply s_append_n; exact rfl; exact rfl; (focus ((repeat constructor); done)); exact el_81; exact sz_26; exact zb_26; exact rfl; exact by_26; (first | exact (fun _ => rfl) | (intro _; exact s.at_ (by omega))); (first | (apply RdN.own; (focus ((repeat constructor); done)); (focus ((repeat (first | exact rfl | constructor)); done)))); (first | exact rfl); (first | omega | (simp; omega) | (simp; done)); (first | omega | (simp; omega) | (simp; done)); intro rk34 sk34 ck34 ok34)); (apply ol_as; exact rfl; exact rfl); (apply ol_nil))
        | (refine cw_region_id 4 ?_; (apply ol_mv; exact rfl; exact rfl); (apply ol_val; exact rfl; apply stp_pur; apply s_add64; exact rfl; exact rfl; omega); (apply ol_as; exact rfl; exact rfl); (apply ol_nil))
        | (apply cw_cond_true; exact rfl; (first | exact rfl | assumption))
        | (apply cw_cond_false; exact rfl; (first | exact rfl | assumption))
        | apply cw_skip
        | apply cw_ret
        | apply cw_block
        | apply cw_exit
      exact ⟨k + 1, ⟨by (repeat (first | exact trivial | refine And.intro rfl ?_)), View.le.refl _, by (repeat (first | exact Pick.nil | (apply Pick.cons; (focus ((repeat (first | exact Spl.here | apply Spl.there)); done))) | exact Pick.refl | exact Pick.skip1 | exact Pick.skip2)), hk', by omega⟩⟩
    · have : k = 4 := by omega
      subst this
      repeat' first
        | apply cw_seq
        | (refine cw_region_id 7 ?_; (apply ol_mv; exact rfl; exact rfl); (apply ol_val; exact rfl; apply stp_cmp; apply s_lss; exact rfl; exact rfl; all_goals (intro hc17; try (exfalso; (first | exact hc17 rfl | omega)))); all_goals (apply ol_nil))
        | (refine cw_region_id 9 ?_; (apply ol_mv; exact rfl; exact rfl); (apply ol_val; exact rfl; apply stp_pur; apply s_mulW; exact rfl; exact rfl); (apply ol_mv; exact rfl; exact rfl); (apply ol_mv; exact rfl; exact rfl); (apply ol_val; exact rfl; apply stp_pur; apply s_mul64; exact rfl; exact rfl; omega); (apply ol_mv; exact rfl; exact rfl); (apply ol_val; exact rfl; apply stp_pur; apply s_add64; exact rfl; exact rfl; omega); (apply ol_val; exact rfl; apply stp_pur; first | (apply s_indexK; exact rfl; exact rfl; exact el_38; exact sz_5; (first | exact rfl); omega) | (apply s_indexO; exact rfl; exact rfl; exact el_38; exact sz_5; (first | exact rfl); omega)); (apply ol_ld; exact rfl; exact rfl; exact rfl; (apply RdN.own; (focus ((repeat constructor); done)); (first | exact GetN.cons rfl GetN.nil | (apply getN_ints_app; (first | omega | (simp; omega) | (simp; done))) | (apply getN_ints; (first | omega | (simp; omega) | (simp; done)))))); (apply ol_val; exact rfl; apply stp_pur; first | (apply s_conv; exact rfl; exact rfl; exact ti_26; (focus (apply wrap_u32; omega))) | (apply s_conv; exact rfl; exact rfl; exact ti_26; exact rfl)); (apply ol_val; exact rfl; apply stp_pur; apply s_addW; exact rfl; exact rfl); (apply ol_as; exact rfl; exact rfl); (apply ol_nil))
        | (refine cw_region_id 8 ?_; (apply ol_mv; exact rfl; exact rfl); (apply ol_val; exact rfl; apply stp_pur; apply s_add64; exact rfl; exact rfl; omega); (apply ol_as; exact rfl; exact rfl); (apply ol_nil))
        | (refine cw_region_id 10 ?_; (apply ol_mv; exact rfl; exact rfl); (apply ol_mv; exact rfl; exact rfl); (apply ol_val; exact rfl; apply s_buildSl; exact rfl; exact el_81; exact sz_26; exact zb_26; (focus ((repeat constructor); done)); exact rfl; exact rfl; (exact Nat.le_of_ble_eq_true rfl); (focus ((repeat constructor); done)); (focus ((repeat (first | exact rfl | constructor)); done)); intro bk33); (apply ol_val; exact rfl; first | (apply s_append_e; exact rfl; exact rfl; (focus ((repeat constructor); done)); exact el_81; exact sz_26; exact zb_26; exact rfl; exact by_26; (first | exact (fun _ => rfl)); (first | (apply RdN.own; (focus ((repeat constructor); done)); (focus ((repeat (first | exact rfl | constructor)); done)))); (first | exact rfl); (first | omega | (simp; omega) | (simp; done)); (first | omega | (simp; omega) | (simp; done)); intro rk34 sk34 ck34 ok34) | (apply s_append_r; exact rfl; exact rfl; (focus ((repeat constructor); done)); (first | exact rfl | exact (List.append_nil _).symm); exact el_81; exact sz_26; exact zb_26; exact rfl; exact by_26; (first | exact SO.nil _ | assumption | (exact ⟨by simp, by simp, Nat.le_refl _, by simp⟩)); (first | exact (fun _ => rfl)); (first | (apply RdN.own; (focus ((repeat constructor); done)); (focus ((repeat (first | exact rfl | constructor)); done)))); (first | exact rfl); (first | omega | (simp; omega) | (simp; done)); (first | omega | (simp; omega) | (simp; done)); intro rk34 sk34 ck34 ok34) | (apply s_append_b; exact rfl; exact rfl; (focus ((repeat constructor); done)); (first | exact rfl | exact (List.append_nil _).symm); exact el_81; exact sz_26; exact zb_26; exact rfl; exact by_26; (first | exact SO.nil _ | assumption | (exact ⟨by simp, by simp, Nat.le_refl _, by simp⟩)); (first | exact (fun _ => rfl)); (first | (apply RdN.own; (focus ((repeat constructor); done)); (focus ((repeat (first | exact rfl | constructor)); done)))); (first | exact rfl); (first | omega | (simp; omega) | (simp; done)); (first | omega | (simp; omega) | (simp; done)); intro rk34 sk34 ck34 ok34) | (apply s_append_n; exact rfl; exact rfl; (focus ((repeat constructor); done)); exact el_81; exact sz_26; exact zb_26; exact rfl; exact by_26; (first | exact (fun _ => rfl)); (first | (apply RdN.own; (focus ((repeat constructor); done)); (focus ((repeat (first | exact rfl | constructor)); done)))); (first | exact rfl); (first | omega | (simp; omega) | (simp; done)); (first | omega | (simp; omega) | (simp; done)); intro rk34 sk34 ck34 ok34)); (apply ol_as; exact rfl; exact rfl); (apply ol_nil))
        | (refine cw_region_id 4 ?_; (apply ol_mv; exact rfl; exact rfl); (apply ol_val; exact rfl; apply stp_pur; apply s_add64; exact rfl; exact rfl; omega); (apply ol_as; exact rfl; exact rfl); (apply ol_nil))
        | (apply cw_cond_true; exact rfl; (first | exact rfl | assumption))
        | (apply cw_cond_false; exact rfl; (first | exact rfl | assumption))
        | apply cw_skip
        | apply cw_ret
        | apply cw_block
        | apply cw_exit
      refine ⟨⟨i + 1, rk34, ck34, sk34⟩, ⟨by (repeat (first | exact trivial | refine And.intro rfl ?_)), View.le.refl _, ?_, ⟨hi', ?_⟩, by dsimp only; omega⟩⟩
      · dsimp only
        rw [hst, flat_append]
        (repeat (first | exact Pick.nil | (apply Pick.cons; (focus ((repeat (first | exact Spl.here | apply Spl.there)); done))) | exact Pick.refl | exact Pick.skip1 | exact Pick.skip2))
      · dsimp only
        rw [hst, flat_append]
        exact ok34
  · have : i = 16 := by omega
    subst this
    repeat' first
      | apply cw_seq
      | (refine cw_region_id 3 ?_; (apply ol_mv; exact rfl; exact rfl); (apply ol_val; exact rfl; apply stp_cmp; apply s_lss; exact rfl; exact rfl; all_goals (intro hc13; try (exfalso; (first | exact hc13 rfl | omega)))); all_goals (apply ol_nil))
      | (refine cw_region_id 5 ?_; (apply ol_as; exact rfl; exact rfl); (apply ol_nil))
      | (refine cw_region_id 6 ?_; (apply ol_as; exact rfl; exact rfl); (apply ol_nil))
      | (refine cw_region_id 11 ?_; (apply ol_as; exact rfl; exact rfl); (apply ol_nil))
      | (apply cw_cond_true; exact rfl; (first | exact rfl | assumption))
      | (apply cw_cond_false; exact rfl; (first | exact rfl | assumption))
      | apply cw_skip
      | apply cw_ret
      | apply cw_block
      | apply cw_exit
    refine cw_loopK (σ := RSt) [] (by (repeat (first | exact Keep.nil | (apply Keep.cons; exact rfl)))) (fun s => [(3, .slice (base s.r none) (16 + s.k) s.c), (7, .int .i64 ((16 + s.k : Nat) : Int))]) (fun _ => M) (fun s => [⟨s.r, flat (eK .u32) (sched (words p 16) s.k) ++ s.sp, 26⟩]) (fun s => s.k ≤ 48 ∧ SO s.r (16 + s.k) s.c (flat (eK .u32) (sched (words p 16) s.k)) s.sp 1) (fun s => 48 - s.k) ⟨0, r, c', sp⟩ (by (repeat (first | exact trivial | refine And.intro rfl ?_))) (View.le.refl _) (by (repeat (first | exact Pick.nil | (apply Pick.cons; (focus ((repeat (first | exact Spl.here | apply Spl.there)); done))) | exact Pick.refl | exact Pick.skip1 | exact Pick.skip2))) ⟨by dsimp only; omega, so⟩ ?_
    clear so hi hi'
    rintro ⟨k, r, c', sp⟩ ⟨hk, so⟩
    dsimp only at hk so
    dsimp only
    have hlen := sched_len p k
    by_cases hk' : k < 48
    · have hst : sched (words p 16) (k + 1) = sched (words p 16) k ++ [nextW (sched (words p 16) k)] := rfl
      rw [next_eq p k (V := sched (words p 16) k) (fun j hj => rfl)] at hst
      obtain ⟨q, hq⟩ : ∃ q, r = some q := ⟨_, some_ref so (by omega)⟩
      subst hq
      generalize sched (words p 16) k = L at *
      repeat' first
        | apply cw_seq
        | (refine cw_region_id 12 ?_; (apply ol_mv; exact rfl; exact rfl); (apply ol_val; exact rfl; apply stp_cmp; apply s_lss; exact rfl; exact rfl; all_goals (intro hc36; try (exfalso; (first | exact hc36 rfl | omega)))); all_goals (apply ol_nil))
        | (refine cw_draw (id := 14) 12 (.mv 0 (.mv 1 (.mv 2 (.mv 3 (.mv 4 (.mv 5 (.mv 6 (.mv 7 (.mv 8 (.mv 9 (.mv 10 (.mv 11 (PT.nil))))))))))))) mixed (by kernel_rfl) ?_; (apply od_mv; exact rfl; exact rfl; apply s_move; exact rfl); (apply od_mv; exact rfl; exact rfl; apply s_move; exact rfl); (apply od_mv; exact rfl; exact rfl; apply s_sub64; exact rfl; exact rfl; omega); (apply od_mv; exact rfl; exact rfl; first | (apply s_indexK; exact rfl; exact rfl; exact el_81; exact sz_26; (first | exact rfl | exact (show base (some q) none = _ from rfl)); omega) | (apply s_indexO; exact rfl; exact rfl; exact el_81; exact sz_26; (first | exact rfl | exact (show base (some q) none = _ from rfl)); omega)); (apply od_mv; exact rfl; exact rfl; apply s_load1; exact rfl; exact rfl; (first | (apply RdN.own; (focus ((repeat constructor); done)); (first | exact GetN.cons rfl GetN.nil | (apply getN_ints_app; (first | omega | (simp; omega) | (simp; done))) | (apply getN_ints; (first | omega | (simp; omega) | (simp; done))))) | (apply RdN.own; (focus ((repeat constructor); done)); (apply getNK; omega)))); (apply od_mv; exact rfl; exact rfl; apply s_move; exact rfl); (apply od_mv; exact rfl; exact rfl; apply s_move; exact rfl); (apply od_mv; exact rfl; exact rfl; apply s_sub64; exact rfl; exact rfl; omega); (apply od_mv; exact rfl; exact rfl; first | (apply s_indexK; exact rfl; exact rfl; exact el_81; exact sz_26; (first | exact rfl | exact (show base (some q) none = _ from rfl)); omega) | (apply s_indexO; exact rfl; exact rfl; exact el_81; exact sz_26; (first | exact rfl | exact (show base (some q) none = _ from rfl)); omega)); (apply od_mv; exact rfl; exact rfl; apply s_load1; exact rfl; exact rfl; (first | (apply RdN.own; (focus ((repeat constructor); done)); (first | exact GetN.cons rfl GetN.nil | (apply getN_ints_app; (first | omega | (simp; omega) | (simp; done))) | (apply getN_ints; (first | omega | (simp; omega) | (simp; done))))) | (apply RdN.own; (focus ((repeat constructor); done)); (apply getNK; omega)))); (apply od_mv; exact rfl; exact rfl; apply s_assign; exact rfl); (apply od_mv; exact rfl; exact rfl; apply s_assign; exact rfl); (apply od_nil; (first | exact Wk.refl _ _ | (focus (apply Wk.mk; (first | exact View.le.refl _ | assumption | exact View.le.trans (by assumption) (by assumption)); (repeat constructor); done)))); (apply ol_nil))
        | (refine cw_region_id 15 ?_; (apply ol_mv; exact rfl; exact rfl); (apply ol_val; exact rfl; apply s_callv; exact rfl; exact gf_48; (intro w' hw'; exact rright_spec w' _ _ (by decide))); (apply ol_mv; exact rfl; exact rfl); (apply ol_val; exact rfl; apply s_callv; exact rfl; exact gf_48; (intro w' hw'; exact rright_spec w' _ _ (by decide))); (apply ol_val; exact rfl; apply stp_pur; apply s_xor; exact rfl; exact rfl); (apply ol_mv; exact rfl; exact rfl); (apply ol_val; exact rfl; apply stp_pur; apply s_shr; exact rfl; exact rfl; (first | decide | omega | (simp [IntKind.bits]; omega) | (simp [IntKind.bits]; done))); (apply ol_val; exact rfl; apply stp_pur; apply s_xor; exact rfl; exact rfl); (apply ol_as; exact rfl; exact rfl); (apply ol_nil))
        | (refine cw_region_id 16 ?_; (apply ol_mv; exact rfl; exact rfl); (apply ol_val; exact rfl; apply s_callv; exact rfl; exact gf_48; (intro w' hw'; exact rright_spec w' _ _ (by decide))); (apply ol_mv; exact rfl; exact rfl); (apply ol_val; exact rfl; apply s_callv; exact rfl; exact gf_48; (intro w' hw'; exact rright_spec w' _ _ (by decide))); (apply ol_val; exact rfl; apply stp_pur; apply s_xor; exact rfl; exact rfl); (apply ol_mv; exact rfl; exact rfl); (apply ol_val; exact rfl; apply stp_pur; apply s_shr; exact rfl; exact rfl; (first | decide | omega | (simp [IntKind.bits]; omega) | (simp [IntKind.bits]; done))); (apply ol_val; exact rfl; apply stp_pur; apply s_xor; exact rfl; exact rfl); (apply ol_as; exact rfl; exact rfl); (apply ol_nil))
        | (refine cw_draw (id := 17) 17 (.mv 0 (.mv 1 (.mv 2 (.mv 3 (.mv 4 (.mv 5 (.mv 6 (.mv 7 (.mv 8 (.mv 9 (.mv 10 (.mv 11 (.mv 12 (.mv 13 (.mv 14 (.mv 15 (.fx 16 (PT.nil)))))))))))))))))) mixed (by kernel_rfl) ?_; (apply od_mv; exact rfl; exact rfl; apply s_move; exact rfl); (apply od_mv; exact rfl; exact rfl; apply s_move; exact rfl); (apply od_mv; exact rfl; exact rfl; apply s_move; exact rfl); (apply od_mv; exact rfl; exact rfl; apply s_sub64; exact rfl; exact rfl; omega); (apply od_mv; exact rfl; exact rfl; first | (apply s_indexK; exact rfl; exact rfl; exact el_81; exact sz_26; (first | exact rfl | exact (show base (some q) none = _ from rfl)); omega) | (apply s_indexO; exact rfl; exact rfl; exact el_81; exact sz_26; (first | exact rfl | exact (show base (some q) none = _ from rfl)); omega)); (apply od_mv; exact rfl; exact rfl; apply s_load1; exact rfl; exact rfl; (first | (apply RdN.own; (focus ((repeat constructor); done)); (first | exact GetN.cons rfl GetN.nil | (apply getN_ints_app; (first | omega | (simp; omega) | (simp; done))) | (apply getN_ints; (first | omega | (simp; omega) | (simp; done))))) | (apply RdN.own; (focus ((repeat constructor); done)); (apply getNK; omega)))); (apply od_mv; exact rfl; exact rfl; apply s_move; exact rfl); (apply od_mv; exact rfl; exact rfl; apply s_addW; exact rfl; exact rfl); (apply od_mv; exact rfl; exact rfl; apply s_move; exact rfl); (apply od_mv; exact rfl; exact rfl; apply s_move; exact rfl); (apply od_mv; exact rfl; exact rfl; apply s_sub64; exact rfl; exact rfl; omega); (apply od_mv; exact rfl; exact rfl; first | (apply s_indexK; exact rfl; exact rfl; exact el_81; exact sz_26; (first | exact rfl | exact (show base (some q) none = _ from rfl)); omega) | (apply s_indexO; exact rfl; exact rfl; exact el_81; exact sz_26; (first | exact rfl | exact (show base (some q) none = _ from rfl)); omega)); (apply od_mv; exact rfl; exact rfl; apply s_load1; exact rfl; exact rfl; (first | (apply RdN.own; (focus ((repeat constructor); done)); (first | exact GetN.cons rfl GetN.nil | (apply getN_ints_app; (first | omega | (simp; omega) | (simp; done))) | (apply getN_ints; (first | omega | (simp; omega) | (simp; done))))) | (apply RdN.own; (focus ((repeat constructor); done)); (apply getNK; omega)))); (apply od_mv; exact rfl; exact rfl; apply s_addW; exact rfl; exact rfl); (apply od_mv; exact rfl; exact rfl; apply s_move; exact rfl); (apply od_mv; exact rfl; exact rfl; apply s_addW; exact rfl; exact rfl); (apply od_fx; (first | exact Wk.refl _ _ | (focus (apply Wk.mk; (first | exact View.le.refl _ | assumption | exact View.le.trans (by assumption) (by assumption)); (repeat constructor); done))); (apply fx_val; exact rfl; exact rfl; apply s_buildSl; exact rfl; exact el_81; exact sz_26; exact zb_26; (focus ((repeat constructor); done)); exact rfl; exact rfl; (exact Nat.le_of_ble_eq_true rfl); (focus ((repeat constructor); done)); (focus ((repeat (first | exact rfl | constructor)); done)); intro bk81)); (apply od_nil; (first | exact Wk.refl _ _ | (focus (apply Wk.mk; (first | exact View.le.refl _ | assumption | exact View.le.trans (by assumption) (by assumption)); (repeat constructor); done)))); (apply ol_val; exact rfl; first | (apply s_append_e; exact rfl; exact rfl; (focus ((repeat constructor); done)); exact el_81; exact sz_26; exact zb_26; exact rfl; exact by_26; (first | exact (fun _ => rfl) | (intro _; exact (show base (some q) none = _ from rfl))); (first | (apply RdN.own; (focus ((repeat constructor); done)); (focus ((repeat (first | exact rfl | constructor)); done)))); (first | exact rfl); (first | omega | (simp; omega) | (simp; done)); (first | omega | (simp; omega) | (simp; done)); intro rk82 sk82 ck82 ok82) | (apply s_append_r; exact rfl; exact rfl; (focus ((repeat constructor); done)); (first | exact rfl | exact (List.append_nil _).symm); exact el_81; exact sz_26; exact zb_26; exact rfl; exact by_26; (first | exact SO.nil _ | assumption | (exact ⟨by simp, by simp, Nat.le_refl _, by simp⟩)); (first | exact (fun _ => rfl) | (intro _; exact (show base (some q) none = _ from rfl))); (first | (apply RdN.own; (focus ((repeat constructor); done)); (focus ((repeat (first | exact rfl | constructor)); done)))); (first | exact rfl); (first | omega | (simp; omega) | (simp; done)); (first | omega | (simp; omega) | (simp; done)); intro rk82 sk82 ck82 ok82) | (apply s_append_b; exact rfl; exact rfl; (focus ((repeat constructor); done)); (first | exact rfl | exact (List.append_nil _).symm); exact el_81; exact sz_26; exact zb_26; exact rfl; exact by_26; (first | exact SO.nil _ | assumption | (exact ⟨by simp, by simp, Nat.le_refl _, by simp⟩)); (first | exact (fun _ => rfl) | (intro _; exact (show base (some q) none = _ from rfl))); (first | (apply RdN.own; (focus ((repeat constructor); done)); (focus ((repeat (first | exact rfl | constructor)); done)))); (first | exact rfl); (first | omega | (simp; omega) | (simp; done)); (first | omega | (simp; omega) | (simp; done)); intro rk82 sk82 ck82 ok82) | (apply s_append_n; exact rfl; exact rfl; (focus ((repeat constructor); done)); exact el_81; exact sz_26; exact zb_26; exact rfl; exact by_26; (first | exact (fun _ => rfl) | (intro _; exact (show base (some q) none = _ from rfl))); (first | (apply RdN.own; (focus ((repeat constructor); done)); (focus ((repeat (first | exact rfl | constructor)); done)))); (first | exact rfl); (first | omega | (simp; omega) | (simp; done)); (first | omega | (simp; omega) | (simp; done)); intro rk82 sk82 ck82 ok82)); (apply ol_as; exact rfl; exact rfl); (apply ol_nil))
        | (refine cw_region_id 13 ?_; (apply ol_mv; exact rfl; exact rfl); (apply ol_val; exact rfl; apply stp_pur; apply s_add64; exact rfl; exact rfl; omega); (apply ol_as; exact rfl; exact rfl); (apply ol_nil))
        | (refine cw_region_id 18 ?_; (apply ol_mv; exact rfl; exact rfl); (apply ol_as; exact rfl; exact rfl); (apply ol_nil))
        | (apply cw_cond_true; exact rfl; (first | exact rfl | assumption))
        | (apply cw_cond_false; exact rfl; (first | exact rfl | assumption))
        | apply cw_skip
        | apply cw_ret
        | apply cw_block
        | apply cw_exit
      refine ⟨⟨k + 1, rk82, ck82, sk82⟩, ⟨by (repeat (first | exact trivial | refine And.intro rfl ?_)), View.le.refl _, ?_, ⟨hk', ?_⟩, by dsimp only; omega⟩⟩
      · dsimp only
        rw [hst, flat_append]
        (repeat (first | exact Pick.nil | (apply Pick.cons; (focus ((repeat (first | exact Spl.here | apply Spl.there)); done))) | exact Pick.refl | exact Pick.skip1 | exact Pick.skip2))
      · dsimp only
        rw [hst, flat_append]
        exact ok82
    · have : k = 48 := by omega
      subst this
      generalize sched (words p 16) 48 = L at *
      repeat' first
        | apply cw_seq
        | (refine cw_region_id 12 ?_; (apply ol_mv; exact rfl; exact rfl); (apply ol_val; exact rfl; apply stp_cmp; apply s_lss; exact rfl; exact rfl; all_goals (intro hc36; try (exfalso; (first | exact hc36 rfl | omega)))); all_goals (apply ol_nil))
        | (refine cw_draw (id := 14) 12 (.mv 0 (.mv 1 (.mv 2 (.mv 3 (.mv 4 (.mv 5 (.mv 6 (.mv 7 (.mv 8 (.mv 9 (.mv 10 (.mv 11 (PT.nil))))))))))))) mixed (by kernel_rfl) ?_; (apply od_mv; exact rfl; exact rfl; apply s_move; exact rfl); (apply od_mv; exact rfl; exact rfl; apply s_move; exact rfl); (apply od_mv; exact rfl; exact rfl; apply s_sub64; exact rfl; exact rfl; omega); (apply od_mv; exact rfl; exact rfl; first | (apply s_indexK; exact rfl; exact rfl; exact el_81; exact sz_26; (first | exact rfl); omega) | (apply s_indexO; exact rfl; exact rfl; exact el_81; exact sz_26; (first | exact rfl); omega)); (apply od_mv; exact rfl; exact rfl; apply s_load1; exact rfl; exact rfl; (apply RdN.own; (focus ((repeat constructor); done)); (first | exact GetN.cons rfl GetN.nil | (apply getN_ints_app; (first | omega | (simp; omega) | (simp; done))) | (apply getN_ints; (first | omega | (simp; omega) | (simp; done)))))); (apply od_mv; exact rfl; exact rfl; apply s_move; exact rfl); (apply od_mv; exact rfl; exact rfl; apply s_move; exact rfl); (apply od_mv; exact rfl; exact rfl; apply s_sub64; exact rfl; exact rfl; omega); (apply od_mv; exact rfl; exact rfl; first | (apply s_indexK; exact rfl; exact rfl; exact el_81; exact sz_26; (first | exact rfl); omega) | (apply s_indexO; exact rfl; exact rfl; exact el_81; exact sz_26; (first | exact rfl); omega)); (apply od_mv; exact rfl; exact rfl; apply s_load1; exact rfl; exact rfl; (apply RdN.own; (focus ((repeat constructor); done)); (first | exact GetN.cons rfl GetN.nil | (apply getN_ints_app; (first | omega | (simp; omega) | (simp; done))) | (apply getN_ints; (first | omega | (simp; omega) | (simp; done)))))); (apply od_mv; exact rfl; exact rfl; apply s_assign; exact rfl); (apply od_mv; exact rfl; exact rfl; apply s_assign; exact rfl); (apply od_nil; (first | exact Wk.refl _ _ | (focus (apply Wk.mk; (first | exact View.le.refl _ | assumption | exact View.le.trans (by assumption) (by assumption)); (repeat constructor); done)))); (apply ol_nil))
        | (refine cw_region_id 15 ?_; (apply ol_mv; exact rfl; exact rfl))
        | (refine cw_region_id 16 ?_; (apply ol_mv; exact rfl; exact rfl))
        | (refine cw_draw (id := 17) 17 (.mv 0 (.mv 1 (.mv 2 (.mv 3 (.mv 4 (.mv 5 (.mv 6 (.mv 7 (.mv 8 (.mv 9 (.mv 10 (.mv 11 (.mv 12 (.mv 13 (.mv 14 (.mv 15 (.fx 16 (PT.nil)))))))))))))))))) mixed (by kernel_rfl) ?_; (apply od_mv; exact rfl; exact rfl; apply s_move; exact rfl); (apply od_mv; exact rfl; exact rfl; apply s_move; exact rfl); (apply od_mv; exact rfl; exact rfl; apply s_move; exact rfl); (apply od_mv; exact rfl; exact rfl; apply s_sub64; exact rfl; exact rfl; omega); (apply od_mv; exact rfl; exact rfl; first | (apply s_indexK; exact rfl; exact rfl; exact el_81; exact sz_26; (first | exact rfl); omega) | (apply s_indexO; exact rfl; exact rfl; exact el_81; exact sz_26; (first | exact rfl); omega)); (apply od_mv; exact rfl; exact rfl; apply s_load1; exact rfl; exact rfl; (apply RdN.own; (focus ((repeat constructor); done)); (first | exact GetN.cons rfl GetN.nil | (apply getN_ints_app; (first | omega | (simp; omega) | (simp; done))) | (apply getN_ints; (first | omega | (simp; omega) | (simp; done)))))); (apply od_mv; exact rfl; exact rfl; apply s_move; exact rfl); (apply od_mv; exact rfl; exact rfl; apply s_addW; exact rfl; exact rfl); (apply od_mv; exact rfl; exact rfl; apply s_move; exact rfl); (apply od_mv; exact rfl; exact rfl; apply s_move; exact rfl); (apply od_mv; exact rfl; exact rfl; apply s_sub64; exact rfl; exact rfl; omega); (apply od_mv; exact rfl; exact rfl; first | (apply s_indexK; exact rfl; exact rfl; exact el_81; exact sz_26; (first | exact rfl); omega) | (apply s_indexO; exact rfl; exact rfl; exact el_81; exact sz_26; (first | exact rfl); omega)); (apply od_mv; exact rfl; exact rfl; apply s_load1; exact rfl; exact rfl; (apply RdN.own; (focus ((repeat constructor); done)); (first | exact GetN.cons rfl GetN.nil | (apply getN_ints_app; (first | omega | (simp; omega) | (simp; done))) | (apply getN_ints; (first | omega | (simp; omega) | (simp; done)))))); (apply od_mv; exact rfl; exact rfl; apply s_addW; exact rfl; exact rfl); (apply od_mv; exact rfl; exact rfl; apply s_move; exact rfl); (apply od_mv; exact rfl; exact rfl; apply s_addW; exact rfl; exact rfl); (apply od_fx; (first | exact Wk.refl _ _ | (focus (apply Wk.mk; (first | exact View.le.refl _ | assumption | exact View.le.trans (by assumption) (by assumption)); (repeat constructor); done))); (apply fx_val; exact rfl; exact rfl; apply s_buildSl; exact rfl; exact el_81; exact sz_26; exact zb_26; (focus ((repeat constructor); done)); exact rfl; exact rfl; (exact Nat.le_of_ble_eq_true rfl); (focus ((repeat constructor); done)); (focus ((repeat (first | exact rfl | constructor)); done)); intro bk81)); (apply od_nil; (first | exact Wk.refl _ _ | (focus (apply Wk.mk; (first | exact View.le.refl _ | assumption | exact View.le.trans (by assumption) (by assumption)); (repeat constructor); done)))); (apply ol_val; exact rfl; first | (apply s_append_e; exact rfl; exact rfl; (focus ((repeat constructor); done)); exact el_81; exact sz_26; exact zb_26; exact rfl; exact by_26; (first | exact (fun _ => rfl)); (first | (apply RdN.own; (focus ((repeat constructor); done)); (focus ((repeat (first | exact rfl | constructor)); done)))); (first | exact rfl); (first | omega | (simp; omega) | (simp; done)); (first | omega | (simp; omega) | (simp; done)); intro rk82 sk82 ck82 ok82) | (apply s_append_r; exact rfl; exact rfl; (focus ((repeat constructor); done)); (first | exact rfl | exact (List.append_nil _).symm); exact el_81; exact sz_26; exact zb_26; exact rfl; exact by_26; (first | exact SO.nil _ | assumption | (exact ⟨by simp, by simp, Nat.le_refl _, by simp⟩)); (first | exact (fun _ => rfl)); (first | (apply RdN.own; (focus ((repeat constructor); done)); (focus ((repeat (first | exact rfl | constructor)); done)))); (first | exact rfl); (first | omega | (simp; omega) | (simp; done)); (first | omega | (simp; omega) | (simp; done)); intro rk82 sk82 ck82 ok82) | (apply s_append_b; exact rfl; exact rfl; (focus ((repeat constructor); done)); (first | exact rfl | exact (List.append_nil _).symm); exact el_81; exact sz_26; exact zb_26; exact rfl; exact by_26; (first | exact SO.nil _ | assumption | (exact ⟨by simp, by simp, Nat.le_refl _, by simp⟩)); (first | exact (fun _ => rfl)); (first | (apply RdN.own; (focus ((repeat constructor); done)); (focus ((repeat (first | exact rfl | constructor)); done)))); (first | exact rfl); (first | omega | (simp; omega) | (simp; done)); (first | omega | (simp; omega) | (simp; done)); intro rk82 sk82 ck82 ok82) | (apply s_append_n; exact rfl; exact rfl; (focus ((repeat constructor); done)); exact el_81; exact sz_26; exact zb_26; exact rfl; exact by_26; (first | exact (fun _ => rfl)); (first | (apply RdN.own; (focus ((repeat constructor); done)); (focus ((repeat (first | exact rfl | constructor)); done)))); (first | exact rfl); (first | omega | (simp; omega) | (simp; done)); (first | omega | (simp; omega) | (simp; done)); intro rk82 sk82 ck82 ok82)); (apply ol_as; exact rfl; exact rfl); (apply ol_nil))
        | (refine cw_region_id 13 ?_; (apply ol_mv; exact rfl; exact rfl); (apply ol_val; exact rfl; apply stp_pur; apply s_add64; exact rfl; exact rfl; omega); (apply ol_as; exact rfl; exact rfl); (apply ol_nil))
        | (refine cw_region_id 18 ?_; (apply ol_mv; exact rfl; exact rfl); (apply ol_as; exact rfl; exact rfl); (apply ol_nil))
        | (apply cw_cond_true; exact rfl; (first | exact rfl | assumption))
        | (apply cw_cond_false; exact rfl; (first | exact rfl | assumption))
        | apply cw_skip
        | apply cw_ret
        | apply cw_block
        | apply cw_exit
      refine ends [⟨r, flat (eK .u32) L ++ sp, 26⟩] (RVal.tmp rfl RVal.nil) (by (repeat (first | exact Pick.nil | (apply Pick.cons; (focus ((repeat (first | exact Spl.here | apply Spl.there)); done))) | exact Pick.refl | exact Pick.skip1 | exact Pick.skip2))) ?_
      refine ⟨r, none, c', sp, ?_, rfl, ?_⟩
      · rw [hlen]; rfl
      · rw [hlen]; exact so
end Go.Proofs.YtkbbbflojebfgaaDoor

/-
  The walk of a block mixed into the state.
-/
namespace Go.Proofs.YtkbbbflojebfgaaDoor
set_option maxRecDepth 20000
set_option linter.unusedSimpArgs false
set_option linter.unusedVariables false
open Go Go.Fw
attribute [local irreducible] CW OL OD FX Stp FnC Ret
set_option maxHeartbeats 800000

/-- What the package's variables hold. -/
structure Laid (M : View) : Prop where
  k : ∀ i, i < 64 → GetN (M.cell 1) (0 + i * 1) 1 [.int .u32 (KK.getD i 0)]
  s : GetN (M.cell 0) 0 8 (flat (eK .u32) start.l)
theorem Laid.mono {M N : View} (h : Laid M) (hM : View.le M N) : Laid N :=
  ⟨fun i hi => (h.k i hi).mono fun _ _ e => hM.cell e, h.s.mono fun _ _ e => hM.cell e⟩

def addL (A B : List Int) (i : Nat) : List Int := (List.zipWith (fun x y => wr (x + y)) A B).take i ++ A.drop i
theorem addL_zero (A B : List Int) : addL A B 0 = A := by simp [addL]
theorem addL_length {A B : List Int} {i : Nat} (hA : A.length = 8) (hB : B.length = 8) (hi : i ≤ 8) : (addL A B i).length = 8 := by simp [addL, hA, hB]; omega
theorem addL_get {A B : List Int} {i : Nat} (hA : A.length = 8) (hB : B.length = 8) (hi : i < 8) : (addL A B i).getD i 0 = A.getD i 0 := by
  have h : ((List.zipWith (fun x y => wr (x + y)) A B).take i).length = i := by simp [hA, hB]; omega
  unfold addL
  simp only [List.getD]
  rw [List.getElem?_append_right (by omega), h, Nat.sub_self]
  simp
theorem addL_succ {A B : List Int} {i : Nat} (hA : A.length = 8) (hB : B.length = 8) (hi : i < 8) : addL A B (i + 1) = (addL A B i).set i (wr (A.getD i 0 + B.getD i 0)) := by
  have h : ((List.zipWith (fun x y => wr (x + y)) A B).take i).length = i := by simp [hA, hB]; omega
  unfold addL
  rw [List.set_append_right _ _ (by omega), h, Nat.sub_self, List.take_succ_eq_append_getElem (by simp [hA, hB]; omega), List.append_assoc]
  have gA : A.getD i 0 = A[i] := by simp [List.getD, List.getElem?_eq_getElem (show i < A.length by omega)]
  have gB : B.getD i 0 = B[i] := by simp [List.getD, List.getElem?_eq_getElem (show i < B.length by omega)]
  congr 1
  rw [gA, gB, List.getElem_zipWith, List.drop_eq_getElem_cons (show i < A.length by omega)]
  rfl
theorem addL_all (s t : H8) : addL s.l t.l 8 = (add8 s t).l := rfl

theorem mix_spec {M : View} {w : World} (hM : View.le M (View.of w)) (hL : Laid M) (s0 : H8) {p : List Int} {n c : Nat} (hn : p.length = n) (h64 : n = 64) (hc : 64 ≤ c) (hb : isB p) {a : Option Addr} {b o : Nat} (s : SlA M (eK .u8) 1 a p b o) :
    FnC Tryd.prog 44 [.agg (flat (eK .u32) s0.l).toArray, .slice a n c] w (fun v _ => v = .agg (flat (eK .u32) (block s0 p).l).toArray) := by
  subst hn
  refine enterF (M := M) Tryd.func44 rfl rfl rfl rfl hM ?_
  unfold block
  have hlen : (sched (words p 16) 48).length = 64 := sched_len p 48
  have hsch : ∀ w', View.le M (View.of w') → FnC Tryd.prog 53 [.slice a p.length c] w' (fun v _ => v = .agg (flat (eK .u32) (sched (words p 16) 48)).toArray) := fun w' h => schedule_spec h rfl h64 hc hb s
  generalize sched (words p 16) 48 = L at *
  clear s hb
  repeat' first
    | apply cw_seq
    | (refine cw_region_id 0 ?_; (apply ol_val; exact rfl; first | (apply s_boxN; exact rfl; intro bk2) | (apply s_box1; exact rfl; exact rfl; intro bk2)); (apply ol_val; exact rfl; apply s_allocK; exact zk_79; intro bk4); (apply ol_nil))
    | (refine cw_region_id 1 ?_; (apply ol_mv; exact rfl; exact rfl); (apply ol_val; exact rfl; apply s_callv; exact rfl; exact gf_53; (intro w' hw'; exact hsch w' hw'.le)); (apply ol_val; exact rfl; apply s_allocK; exact zk_88; intro bk5); (apply ol_eff; apply s_storeK; exact rfl; exact rfl; exact sz_88; (focus ((repeat constructor); done)); (first | assumption | (rw [List.length_replicate])); (first | assumption | (rw [List.length_replicate]))); (apply ol_nil))
    | (refine cw_draw (id := 2) 24 (.mv 0 (.mv 1 (.mv 2 (.mv 3 (.mv 4 (.mv 5 (.mv 6 (.mv 7 (.mv 8 (.mv 9 (.mv 10 (.mv 11 (.mv 12 (.mv 13 (.mv 14 (.mv 15 (.mv 16 (.mv 17 (.mv 18 (.mv 19 (.mv 20 (.mv 21 (.mv 22 (.mv 23 (PT.nil))))))))))))))))))))))))) mixed (by kernel_rfl) ?_; (apply od_mv; exact rfl; exact rfl; first | (apply s_indexAK; exact rfl; exact rfl; exact ar_79; exact sz_26; omega) | (apply s_indexAO; exact rfl; exact rfl; exact ar_79; exact sz_26; omega)); (apply od_mv; exact rfl; exact rfl; apply s_load1; exact rfl; exact rfl; (apply RdN.own; (focus ((repeat constructor); done)); (first | exact GetN.cons rfl GetN.nil | (apply getN_ints_app; (first | omega | (simp; omega) | (simp; done))) | (apply getN_ints; (first | omega | (simp; omega) | (simp; done)))))); (apply od_mv; exact rfl; exact rfl; first | (apply s_indexAK; exact rfl; exact rfl; exact ar_79; exact sz_26; omega) | (apply s_indexAO; exact rfl; exact rfl; exact ar_79; exact sz_26; omega)); (apply od_mv; exact rfl; exact rfl; apply s_load1; exact rfl; exact rfl; (apply RdN.own; (focus ((repeat constructor); done)); (first | exact GetN.cons rfl GetN.nil | (apply getN_ints_app; (first | omega | (simp; omega) | (simp; done))) | (apply getN_ints; (first | omega | (simp; omega) | (simp; done)))))); (apply od_mv; exact rfl; exact rfl; first | (apply s_indexAK; exact rfl; exact rfl; exact ar_79; exact sz_26; omega) | (apply s_indexAO; exact rfl; exact rfl; exact ar_79; exact sz_26; omega)); (apply od_mv; exact rfl; exact rfl; apply s_load1; exact rfl; exact rfl; (apply RdN.own; (focus ((repeat constructor); done)); (first | exact GetN.cons rfl GetN.nil | (apply getN_ints_app; (first | omega | (simp; omega) | (simp; done))) | (apply getN_ints; (first | omega | (simp; omega) | (simp; done)))))); (apply od_mv; exact rfl; exact rfl; first | (apply s_indexAK; exact rfl; exact rfl; exact ar_79; exact sz_26; omega) | (apply s_indexAO; exact rfl; exact rfl; exact ar_79; exact sz_26; omega)); (apply od_mv; exact rfl; exact rfl; apply s_load1; exact rfl; exact rfl; (apply RdN.own; (focus ((repeat constructor); done)); (first | exact GetN.cons rfl GetN.nil | (apply getN_ints_app; (first | omega | (simp; omega) | (simp; done))) | (apply getN_ints; (first | omega | (simp; omega) | (simp; done)))))); (apply od_mv; exact rfl; exact rfl; first | (apply s_indexAK; exact rfl; exact rfl; exact ar_79; exact sz_26; omega) | (apply s_indexAO; exact rfl; exact rfl; exact ar_79; exact sz_26; omega)); (apply od_mv; exact rfl; exact rfl; apply s_load1; exact rfl; exact rfl; (apply RdN.own; (focus ((repeat constructor); done)); (first | exact GetN.cons rfl GetN.nil | (apply getN_ints_app; (first | omega | (simp; omega) | (simp; done))) | (apply getN_ints; (first | omega | (simp; omega) | (simp; done)))))); (apply od_mv; exact rfl; exact rfl; first | (apply s_indexAK; exact rfl; exact rfl; exact ar_79; exact sz_26; omega) | (apply s_indexAO; exact rfl; exact rfl; exact ar_79; exact sz_26; omega)); (apply od_mv; exact rfl; exact rfl; apply s_load1; exact rfl; exact rfl; (apply RdN.own; (focus ((repeat constructor); done)); (first | exact GetN.cons rfl GetN.nil | (apply getN_ints_app; (first | omega | (simp; omega) | (simp; done))) | (apply getN_ints; (first | omega | (simp; omega) | (simp; done)))))); (apply od_mv; exact rfl; exact rfl; first | (apply s_indexAK; exact rfl; exact rfl; exact ar_79; exact sz_26; omega) | (apply s_indexAO; exact rfl; exact rfl; exact ar_79; exact sz_26; omega)); (apply od_mv; exact rfl; exact rfl; apply s_load1; exact rfl; exact rfl; (apply RdN.own; (focus ((repeat constructor); done)); (first | exact GetN.cons rfl GetN.nil | (apply getN_ints_app; (first | omega | (simp; omega) | (simp; done))) | (apply getN_ints; (first | omega | (simp; omega) | (simp; done)))))); (apply od_mv; exact rfl; exact rfl; first | (apply s_indexAK; exact rfl; exact rfl; exact ar_79; exact sz_26; omega) | (apply s_indexAO; exact rfl; exact rfl; exact ar_79; exact sz_26; omega)); (apply od_mv; exact rfl; exact rfl; apply s_load1; exact rfl; exact rfl; (apply RdN.own; (focus ((repeat constructor); done)); (first | exact GetN.cons rfl GetN.nil | (apply getN_ints_app; (first | omega | (simp; omega) | (simp; done))) | (apply getN_ints; (first | omega | (simp; omega) | (simp; done)))))); (apply od_mv; exact rfl; exact rfl; apply s_assign; exact rfl); (apply od_mv; exact rfl; exact rfl; apply s_assign; exact rfl); (apply od_mv; exact rfl; exact rfl; apply s_assign; exact rfl); (apply od_mv; exact rfl; exact rfl; apply s_assign; exact rfl); (apply od_mv; exact rfl; exact rfl; apply s_assign; exact rfl); (apply od_mv; exact rfl; exact rfl; apply s_assign; exact rfl); (apply od_mv; exact rfl; exact rfl; apply s_assign; exact rfl); (apply od_mv; exact rfl; exact rfl; apply s_assign; exact rfl); (apply od_nil; (first | exact Wk.refl _ _ | (focus (apply Wk.mk; (first | exact View.le.refl _ | assumption | exact View.le.trans (by assumption) (by assumption)); (repeat constructor); done)))); (apply ol_nil))
    | (refine cw_region_id 3 ?_; (apply ol_mv; exact rfl; exact rfl); (apply ol_nil))
    | (apply cw_cond_true; exact rfl; (first | exact rfl | assumption))
    | (apply cw_cond_false; exact rfl; (first | exact rfl | assumption))
    | apply cw_skip
    | apply cw_ret
    | apply cw_block
    | apply cw_exit
  refine cw_loopK (σ := Nat) [2, 4, 5] (by (repeat (first | exact Keep.nil | (apply Keep.cons; exact rfl)))) (fun k => [(6, .int .u32 (rounds s0 L k).a), (7, .int .u32 (rounds s0 L k).b), (8, .int .u32 (rounds s0 L k).c), (9, .int .u32 (rounds s0 L k).d), (10, .int .u32 (rounds s0 L k).e), (11, .int .u32 (rounds s0 L k).f), (12, .int .u32 (rounds s0 L k).g), (13, .int .u32 (rounds s0 L k).h), (37, .int .i64 k)]) (fun _ => M) (fun _ => [⟨some bk2, flat (eK .u32) s0.l, 79⟩, ⟨some bk4, flat (eK .u32) (List.replicate 8 0), 79⟩, ⟨some bk5, flat (eK .u32) L, 88⟩]) (fun k => k ≤ 64) (fun k => 64 - k) 0 (by (repeat (first | exact trivial | refine And.intro rfl ?_))) (View.le.refl _) (by (repeat (first | exact Pick.nil | (apply Pick.cons; (focus ((repeat (first | exact Spl.here | apply Spl.there)); done))) | exact Pick.refl | exact Pick.skip1 | exact Pick.skip2))) (by omega) ?_
  intro k hk
  try dsimp only
  by_cases hk' : k < 64
  · have hst : rounds s0 L (k + 1) = round (rounds s0 L k) (KK.getD k 0) (L.getD k 0) := rfl
    have hkk := hL.k k hk'
    generalize rounds s0 L k = R at *
    repeat' first
      | apply cw_seq
      | (refine cw_region_id 4 ?_; (apply ol_val; exact rfl; apply stp_cmp; apply s_lss; exact rfl; exact rfl; all_goals (intro hc38; try (exfalso; (first | exact hc38 rfl | omega)))); all_goals (apply ol_nil))
      | (refine cw_region_id 5 ?_; (apply ol_mv; exact rfl; exact rfl); (apply ol_as; exact rfl; exact rfl); (apply ol_nil))
      | (refine cw_draw (id := 6) 28 (.mv 0 (.mv 1 (.mv 3 (.mv 6 (.mv 10 (.mv 11 (.mv 12 (.mv 13 (.mv 14 (.mv 15 (.mv 16 (.mv 17 (.mv 19 (.mv 20 (.mv 21 (.mv 23 (.mv 24 (.mv 25 (.fx 2 (.fx 4 (.mv 5 (.fx 7 (.mv 8 (.mv 9 (.mv 18 (.mv 22 (.mv 26 (.mv 27 (PT.nil))))))))))))))))))))))))))))) mixed (by kernel_rfl) ?_; (apply od_mv; exact rfl; exact rfl; apply s_move; exact rfl); (apply od_mv; exact rfl; exact rfl; apply s_move; exact rfl); (apply od_mv; exact rfl; exact rfl; apply s_move; exact rfl); (apply od_mv; exact rfl; exact rfl; apply s_move; exact rfl); (apply od_mv; exact rfl; exact rfl; apply s_move; exact rfl); (apply od_mv; exact rfl; exact rfl; apply s_move; exact rfl); (apply od_mv; exact rfl; exact rfl; apply s_and; exact rfl; exact rfl); (apply od_mv; exact rfl; exact rfl; apply s_move; exact rfl); (apply od_mv; exact rfl; exact rfl; apply s_compl32; exact rfl); (apply od_mv; exact rfl; exact rfl; apply s_move; exact rfl); (apply od_mv; exact rfl; exact rfl; apply s_and; exact rfl; exact rfl); (apply od_mv; exact rfl; exact rfl; apply s_xor; exact rfl; exact rfl); (apply od_mv; exact rfl; exact rfl; apply s_move; exact rfl); (apply od_mv; exact rfl; exact rfl; first | (apply s_indexAK; exact rfl; exact rfl; exact ar_88; exact sz_26; omega) | (apply s_indexAO; exact rfl; exact rfl; exact ar_88; exact sz_26; omega)); (apply od_mv; exact rfl; exact rfl; apply s_load1; exact rfl; exact rfl; (first | (apply RdN.own; (focus ((repeat constructor); done)); (first | exact GetN.cons rfl GetN.nil | (apply getN_ints_app; (first | omega | (simp; omega) | (simp; done))) | (apply getN_ints; (first | omega | (simp; omega) | (simp; done))))) | (apply RdN.view; exact hkk) | (apply RdN.own; (focus ((repeat constructor); done)); (apply getNK0; omega)))); (apply od_mv; exact rfl; exact rfl; apply s_move; exact rfl); (apply od_mv; exact rfl; exact rfl; first | (apply s_indexAK; exact rfl; exact rfl; exact ar_88; exact sz_26; omega) | (apply s_indexAO; exact rfl; exact rfl; exact ar_88; exact sz_26; omega)); (apply od_mv; exact rfl; exact rfl; apply s_load1; exact rfl; exact rfl; (first | (apply RdN.own; (focus ((repeat constructor); done)); (first | exact GetN.cons rfl GetN.nil | (apply getN_ints_app; (first | omega | (simp; omega) | (simp; done))) | (apply getN_ints; (first | omega | (simp; omega) | (simp; done))))) | (apply RdN.view; exact hkk) | (apply RdN.own; (focus ((repeat constructor); done)); (apply getNK0; omega)))); (apply od_fx; (first | exact Wk.refl _ _ | (focus (apply Wk.mk; (first | exact View.le.refl _ | assumption | exact View.le.trans (by assumption) (by assumption)); (repeat constructor); done))); (apply fx_val; exact rfl; exact rfl; apply s_callv; exact rfl; exact gf_54; (intro w' hw'; exact right_spec w' _ _ (by decide)))); (apply od_fx; (first | exact Wk.refl _ _ | (focus (apply Wk.mk; (first | exact View.le.refl _ | assumption | exact View.le.trans (by assumption) (by assumption)); (repeat constructor); done))); (apply fx_val; exact rfl; exact rfl; apply s_callv; exact rfl; exact gf_54; (intro w' hw'; exact right_spec w' _ _ (by decide)))); (apply od_mv; exact rfl; exact rfl; apply s_xor; exact rfl; exact rfl); (apply od_fx; (first | exact Wk.refl _ _ | (focus (apply Wk.mk; (first | exact View.le.refl _ | assumption | exact View.le.trans (by assumption) (by assumption)); (repeat constructor); done))); (apply fx_val; exact rfl; exact rfl; apply s_callv; exact rfl; exact gf_54; (intro w' hw'; exact right_spec w' _ _ (by decide)))); (apply od_mv; exact rfl; exact rfl; apply s_xor; exact rfl; exact rfl); (apply od_mv; exact rfl; exact rfl; apply s_addW; exact rfl; exact rfl); (apply od_mv; exact rfl; exact rfl; apply s_addW; exact rfl; exact rfl); (apply od_mv; exact rfl; exact rfl; apply s_addW; exact rfl; exact rfl); (apply od_mv; exact rfl; exact rfl; apply s_addW; exact rfl; exact rfl); (apply od_mv; exact rfl; exact rfl; apply s_assign; exact rfl); (apply od_nil; (first | exact Wk.refl _ _ | (focus (apply Wk.mk; (first | exact View.le.refl _ | assumption | exact View.le.trans (by assumption) (by assumption)); (repeat constructor); done)))); (apply ol_nil))
      | (refine cw_region_id 7 ?_; (apply ol_mv; exact rfl; exact rfl); (apply ol_val; exact rfl; apply s_callv; exact rfl; exact gf_54; (intro w' hw'; exact right_spec w' _ _ (by decide))); (apply ol_mv; exact rfl; exact rfl); (apply ol_val; exact rfl; apply s_callv; exact rfl; exact gf_54; (intro w' hw'; exact right_spec w' _ _ (by decide))); (apply ol_val; exact rfl; apply stp_pur; apply s_xor; exact rfl; exact rfl); (apply ol_mv; exact rfl; exact rfl); (apply ol_val; exact rfl; apply s_callv; exact rfl; exact gf_54; (intro w' hw'; exact right_spec w' _ _ (by decide))); (apply ol_val; exact rfl; apply stp_pur; apply s_xor; exact rfl; exact rfl); (apply ol_mv; exact rfl; exact rfl); (apply ol_mv; exact rfl; exact rfl); (apply ol_val; exact rfl; apply stp_pur; apply s_and; exact rfl; exact rfl); (apply ol_mv; exact rfl; exact rfl); (apply ol_mv; exact rfl; exact rfl); (apply ol_val; exact rfl; apply stp_pur; apply s_and; exact rfl; exact rfl); (apply ol_val; exact rfl; apply stp_pur; apply s_xor; exact rfl; exact rfl); (apply ol_mv; exact rfl; exact rfl); (apply ol_mv; exact rfl; exact rfl); (apply ol_val; exact rfl; apply stp_pur; apply s_and; exact rfl; exact rfl); (apply ol_val; exact rfl; apply stp_pur; apply s_xor; exact rfl; exact rfl); (apply ol_val; exact rfl; apply stp_pur; apply s_addW; exact rfl; exact rfl); (apply ol_as; exact rfl; exact rfl); (apply ol_nil))
      | (refine cw_region_id 8 ?_; (apply ol_mv; exact rfl; exact rfl); (apply ol_mv; exact rfl; exact rfl); (apply ol_mv; exact rfl; exact rfl); (apply ol_mv; exact rfl; exact rfl); (apply ol_mv; exact rfl; exact rfl); (apply ol_val; exact rfl; apply stp_pur; apply s_addW; exact rfl; exact rfl); (apply ol_mv; exact rfl; exact rfl); (apply ol_mv; exact rfl; exact rfl); (apply ol_mv; exact rfl; exact rfl); (apply ol_mv; exact rfl; exact rfl); (apply ol_mv; exact rfl; exact rfl); (apply ol_val; exact rfl; apply stp_pur; apply s_addW; exact rfl; exact rfl); (apply ol_as; exact rfl; exact rfl); (apply ol_as; exact rfl; exact rfl); (apply ol_as; exact rfl; exact rfl); (apply ol_as; exact rfl; exact rfl); (apply ol_as; exact rfl; exact rfl); (apply ol_as; exact rfl; exact rfl); (apply ol_as; exact rfl; exact rfl); (apply ol_as; exact rfl; exact rfl); (apply ol_nil))
      | (refine cw_region_id 9 ?_; (apply ol_val; exact rfl; apply stp_pur; apply s_add64; exact rfl; exact rfl; omega); (apply ol_mv; exact rfl; exact rfl); (apply ol_nil))
      | (refine cw_region_id 10 ?_; (apply ol_mv; exact rfl; exact rfl); (apply ol_mv; exact rfl; exact rfl); (apply ol_mv; exact rfl; exact rfl); (apply ol_mv; exact rfl; exact rfl); (apply ol_mv; exact rfl; exact rfl); (apply ol_mv; exact rfl; exact rfl); (apply ol_mv; exact rfl; exact rfl); (apply ol_mv; exact rfl; exact rfl); (apply ol_val; exact rfl; apply stp_pur; apply s_buildA; exact rfl; exact ar_79; exact sz_26; exact zb_79; (focus ((repeat (first | exact Fil.nil | (apply Fil.one; exact rfl; exact rfl; (repeat (first | exact SetAt.zero | apply SetAt.succ))) | (apply Fil.agg; exact rfl; exact rfl; (repeat (first | exact SetN.nil | (apply SetN.cons; (repeat (first | exact SetAt.zero | apply SetAt.succ))))); (exact Nat.le_of_ble_eq_true rfl)))); done))); (apply ol_mv; exact rfl; exact rfl); (apply ol_nil))
      | (apply cw_cond_true; exact rfl; (first | exact rfl | assumption))
      | (apply cw_cond_false; exact rfl; (first | exact rfl | assumption))
      | apply cw_skip
      | apply cw_ret
      | apply cw_block
      | apply cw_exit
    refine ⟨k + 1, ⟨?_, View.le.refl _, by (repeat (first | exact Pick.nil | (apply Pick.cons; (focus ((repeat (first | exact Spl.here | apply Spl.there)); done))) | exact Pick.refl | exact Pick.skip1 | exact Pick.skip2)), hk', by omega⟩⟩
    rw [hst]
    (repeat (first | exact trivial | refine And.intro rfl ?_))
  · have : k = 64 := by omega
    subst this
    generalize rounds s0 L 64 = R at *
    repeat' first
      | apply cw_seq
      | (refine cw_region_id 4 ?_; (apply ol_val; exact rfl; apply stp_cmp; apply s_lss; exact rfl; exact rfl; all_goals (intro hc38; try (exfalso; (first | exact hc38 rfl | omega)))); all_goals (apply ol_nil))
      | (refine cw_region_id 5 ?_; (apply ol_mv; exact rfl; exact rfl); (apply ol_as; exact rfl; exact rfl); (apply ol_nil))
      | (refine cw_draw (id := 6) 28 (.mv 0 (.mv 1 (.mv 3 (.mv 6 (.mv 10 (.mv 11 (.mv 12 (.mv 13 (.mv 14 (.mv 15 (.mv 16 (.mv 17 (.mv 19 (.mv 20 (.mv 21 (.mv 23 (.mv 24 (.mv 25 (.fx 2 (.fx 4 (.mv 5 (.fx 7 (.mv 8 (.mv 9 (.mv 18 (.mv 22 (.mv 26 (.mv 27 (PT.nil))))))))))))))))))))))))))))) mixed (by kernel_rfl) ?_; (apply od_mv; exact rfl; exact rfl; apply s_move; exact rfl); (apply od_mv; exact rfl; exact rfl; apply s_move; exact rfl); (apply od_mv; exact rfl; exact rfl; apply s_move; exact rfl); (apply od_mv; exact rfl; exact rfl; apply s_move; exact rfl); (apply od_mv; exact rfl; exact rfl; apply s_move; exact rfl); (apply od_mv; exact rfl; exact rfl; apply s_move; exact rfl); (apply od_mv; exact rfl; exact rfl; apply s_and; exact rfl; exact rfl); (apply od_mv; exact rfl; exact rfl; apply s_move; exact rfl); (apply od_mv; exact rfl; exact rfl; apply s_compl32; exact rfl); (apply od_mv; exact rfl; exact rfl; apply s_move; exact rfl); (apply od_mv; exact rfl; exact rfl; apply s_and; exact rfl; exact rfl); (apply od_mv; exact rfl; exact rfl; apply s_xor; exact rfl; exact rfl); (apply od_mv; exact rfl; exact rfl; apply s_move; exact rfl); (apply od_mv; exact rfl; exact rfl; first | (apply s_indexAK; exact rfl; exact rfl; exact ar_88; exact sz_26; omega) | (apply s_indexAO; exact rfl; exact rfl; exact ar_88; exact sz_26; omega)); (apply od_mv; exact rfl; exact rfl; apply s_load1; exact rfl; exact rfl; (apply RdN.own; (focus ((repeat constructor); done)); (first | exact GetN.cons rfl GetN.nil | (apply getN_ints_app; (first | omega | (simp; omega) | (simp; done))) | (apply getN_ints; (first | omega | (simp; omega) | (simp; done)))))); (apply od_mv; exact rfl; exact rfl; apply s_move; exact rfl); (apply od_mv; exact rfl; exact rfl; first | (apply s_indexAK; exact rfl; exact rfl; exact ar_88; exact sz_26; omega) | (apply s_indexAO; exact rfl; exact rfl; exact ar_88; exact sz_26; omega)); (apply od_mv; exact rfl; exact rfl; apply s_load1; exact rfl; exact rfl; (apply RdN.own; (focus ((repeat constructor); done)); (first | exact GetN.cons rfl GetN.nil | (apply getN_ints_app; (first | omega | (simp; omega) | (simp; done))) | (apply getN_ints; (first | omega | (simp; omega) | (simp; done)))))))
      | (refine cw_region_id 7 ?_; (apply ol_mv; exact rfl; exact rfl))
      | (refine cw_region_id 8 ?_; (apply ol_mv; exact rfl; exact rfl); (apply ol_mv; exact rfl; exact rfl); (apply ol_mv; exact rfl; exact rfl); (apply ol_mv; exact rfl; exact rfl); (apply ol_mv; exact rfl; exact rfl); (apply ol_val; exact rfl; apply stp_pur; apply s_addW; exact rfl; exact rfl); (apply ol_mv; exact rfl; exact rfl); (apply ol_mv; exact rfl; exact rfl); (apply ol_mv; exact rfl; exact rfl); (apply ol_mv; exact rfl; exact rfl); (apply ol_mv; exact rfl; exact rfl); (apply ol_val; exact rfl; apply stp_pur; apply s_addW; exact rfl; exact rfl); (apply ol_as; exact rfl; exact rfl); (apply ol_as; exact rfl; exact rfl); (apply ol_as; exact rfl; exact rfl); (apply ol_as; exact rfl; exact rfl); (apply ol_as; exact rfl; exact rfl); (apply ol_as; exact rfl; exact rfl); (apply ol_as; exact rfl; exact rfl); (apply ol_as; exact rfl; exact rfl); (apply ol_nil))
      | (refine cw_region_id 9 ?_; (apply ol_val; exact rfl; apply stp_pur; apply s_add64; exact rfl; exact rfl; omega); (apply ol_mv; exact rfl; exact rfl); (apply ol_nil))
      | (refine cw_region_id 10 ?_; (apply ol_mv; exact rfl; exact rfl); (apply ol_mv; exact rfl; exact rfl); (apply ol_mv; exact rfl; exact rfl); (apply ol_mv; exact rfl; exact rfl); (apply ol_mv; exact rfl; exact rfl); (apply ol_mv; exact rfl; exact rfl); (apply ol_mv; exact rfl; exact rfl); (apply ol_mv; exact rfl; exact rfl); (apply ol_val; exact rfl; apply stp_pur; apply s_buildA; exact rfl; exact ar_79; exact sz_26; exact zb_79; (focus ((repeat (first | exact Fil.nil | (apply Fil.one; exact rfl; exact rfl; (repeat (first | exact SetAt.zero | apply SetAt.succ))) | (apply Fil.agg; exact rfl; exact rfl; (repeat (first | exact SetN.nil | (apply SetN.cons; (repeat (first | exact SetAt.zero | apply SetAt.succ))))); (exact Nat.le_of_ble_eq_true rfl)))); done))); (apply ol_mv; exact rfl; exact rfl); (apply ol_nil))
      | (apply cw_cond_true; exact rfl; (first | exact rfl | assumption))
      | (apply cw_cond_false; exact rfl; (first | exact rfl | assumption))
      | apply cw_skip
      | apply cw_ret
      | apply cw_block
      | apply cw_exit
    refine cw_loopK (σ := Nat) [2, 4] (by (repeat (first | exact Keep.nil | (apply Keep.cons; exact rfl)))) (fun k => [(108, .agg (flat (eK .u32) R.l).toArray), (109, .int .i64 k)]) (fun _ => M) (fun k => [⟨some bk2, flat (eK .u32) (addL s0.l R.l k), 79⟩, ⟨some bk4, flat (eK .u32) (List.replicate 8 0), 79⟩]) (fun k => k ≤ 8) (fun k => 8 - k) 0 (by (repeat (first | exact trivial | refine And.intro rfl ?_))) (View.le.refl _) (by rw [addL_zero]; (repeat (first | exact Pick.nil | (apply Pick.cons; (focus ((repeat (first | exact Spl.here | apply Spl.there)); done))) | exact Pick.refl | exact Pick.skip1 | exact Pick.skip2))) (by omega) ?_
    clear hk hk'
    intro k hk
    try dsimp only
    have hal := addL_length (A := s0.l) (B := R.l) rfl rfl hk
    by_cases hk' : k < 8
    · have hst := addL_succ (A := s0.l) (B := R.l) (i := k) rfl rfl hk'
      rw [← addL_get (A := s0.l) (B := R.l) (i := k) rfl rfl hk'] at hst
      have hRl : R.l.length = 8 := rfl
      generalize addL s0.l R.l k = S at *
      generalize R.l = RL at *
      repeat' first
        | apply cw_seq
        | (refine cw_region_id 11 ?_; (apply ol_val; exact rfl; apply stp_cmp; apply s_lss; exact rfl; exact rfl; all_goals (intro hc110; try (exfalso; (first | exact hc110 rfl | omega)))); all_goals (apply ol_nil))
        | (refine cw_region_id 12 ?_; (apply ol_mv; exact rfl; exact rfl); (apply ol_val; exact rfl; apply stp_pur; apply s_indexVK; exact rfl; exact rfl; exact ar_79; exact sz_26; exact rfl; (first | omega | (simp; omega) | (simp; done)); omega); (apply ol_as; exact rfl; exact rfl); (apply ol_as; exact rfl; exact rfl); (apply ol_nil))
        | (refine cw_region_id 13 ?_; (apply ol_mv; exact rfl; exact rfl); (apply ol_val; exact rfl; apply stp_pur; first | (apply s_indexAK; exact rfl; exact rfl; exact ar_79; exact sz_26; omega) | (apply s_indexAO; exact rfl; exact rfl; exact ar_79; exact sz_26; omega)); (apply ol_ld; exact rfl; exact rfl; exact rfl; (first | (apply RdN.own; (focus ((repeat constructor); done)); (first | exact GetN.cons rfl GetN.nil | (apply getN_ints_app; (first | omega | (simp; omega) | (simp; done))) | (apply getN_ints; (first | omega | (simp; omega) | (simp; done))))) | (apply RdN.own; (focus ((repeat constructor); done)); (apply getNK0; omega)))); (apply ol_mv; exact rfl; exact rfl); (apply ol_val; exact rfl; apply stp_pur; apply s_addW; exact rfl; exact rfl); (apply ol_val; exact rfl; apply stp_pur; first | (apply s_indexAK; exact rfl; exact rfl; exact ar_79; exact sz_26; omega) | (apply s_indexAO; exact rfl; exact rfl; exact ar_79; exact sz_26; omega)); (apply ol_eff; apply s_store1; exact rfl; exact rfl; exact sz_26; exact rfl; (focus ((repeat constructor); done)); (first | (focus ((repeat constructor); done)) | (apply setAt_ints_app; (first | omega | (simp; omega) | (simp; done))) | (apply setAt_ints; (first | omega | (simp; omega) | (simp; done))) | (apply setAtK0; omega) | (apply SetAt.set; (first | omega | (simp; omega) | (simp; done))))); (apply ol_nil))
        | (refine cw_region_id 14 ?_; (apply ol_val; exact rfl; apply stp_pur; apply s_add64; exact rfl; exact rfl; omega); (apply ol_mv; exact rfl; exact rfl); (apply ol_nil))
        | (refine cw_region_id 15 ?_; (apply ol_ldN; exact rfl; exact rfl; exact rfl; exact sz_79; (first | (apply RdN.own; (focus ((repeat constructor); done)); (apply getNK_all; (first | assumption | (rw [List.length_replicate])))) | (apply RdN.own; (focus ((repeat constructor); done)); (apply getNK0; omega)))); (apply ol_eff; apply s_storeK; exact rfl; exact rfl; exact sz_79; (focus ((repeat constructor); done)); (first | assumption | (rw [List.length_replicate])); (first | assumption | (rw [List.length_replicate]))); (apply ol_nil))
        | (apply cw_cond_true; exact rfl; (first | exact rfl | assumption))
        | (apply cw_cond_false; exact rfl; (first | exact rfl | assumption))
        | apply cw_skip
        | apply cw_ret
        | apply cw_block
        | apply cw_exit
      refine ⟨k + 1, ⟨by (repeat (first | exact trivial | refine And.intro rfl ?_)), View.le.refl _, ?_, hk', by omega⟩⟩
      rw [hst]
      (repeat (first | exact Pick.nil | (apply Pick.cons; (focus ((repeat (first | exact Spl.here | apply Spl.there)); done))) | exact Pick.refl | exact Pick.skip1 | exact Pick.skip2))
    · have : k = 8 := by omega
      subst this
      rw [addL_all] at hal ⊢
      generalize (add8 s0 R).l = S at *
      repeat' first
        | apply cw_seq
        | (refine cw_region_id 11 ?_; (apply ol_val; exact rfl; apply stp_cmp; apply s_lss; exact rfl; exact rfl; all_goals (intro hc110; try (exfalso; (first | exact hc110 rfl | omega)))); all_goals (apply ol_nil))
        | (refine cw_region_id 12 ?_; (apply ol_mv; exact rfl; exact rfl); (apply ol_val; exact rfl; apply stp_pur; apply s_indexVK; exact rfl; exact rfl; exact ar_79; exact sz_26; exact rfl; (first | omega | (simp; omega) | (simp; done)); omega); (apply ol_as; exact rfl; exact rfl); (apply ol_as; exact rfl; exact rfl); (apply ol_nil))
        | (refine cw_region_id 13 ?_; (apply ol_mv; exact rfl; exact rfl); (apply ol_val; exact rfl; apply stp_pur; first | (apply s_indexAK; exact rfl; exact rfl; exact ar_79; exact sz_26; omega) | (apply s_indexAO; exact rfl; exact rfl; exact ar_79; exact sz_26; omega)); (apply ol_ld; exact rfl; exact rfl; exact rfl; (apply RdN.own; (focus ((repeat constructor); done)); (first | exact GetN.cons rfl GetN.nil | (apply getN_ints_app; (first | omega | (simp; omega) | (simp; done))) | (apply getN_ints; (first | omega | (simp; omega) | (simp; done)))))); (apply ol_mv; exact rfl; exact rfl); (apply ol_val; exact rfl; apply stp_pur; apply s_addW; exact rfl; exact rfl); (apply ol_val; exact rfl; apply stp_pur; first | (apply s_indexAK; exact rfl; exact rfl; exact ar_79; exact sz_26; omega) | (apply s_indexAO; exact rfl; exact rfl; exact ar_79; exact sz_26; omega)); (apply ol_eff; apply s_store1; exact rfl; exact rfl; exact sz_26; exact rfl; (focus ((repeat constructor); done)); (first | (focus ((repeat constructor); done)) | (apply setAt_ints_app; (first | omega | (simp; omega) | (simp; done))) | (apply setAt_ints; (first | omega | (simp; omega) | (simp; done))) | (apply SetAt.set; (first | omega | (simp; omega) | (simp; done))))); (apply ol_nil))
        | (refine cw_region_id 14 ?_; (apply ol_val; exact rfl; apply stp_pur; apply s_add64; exact rfl; exact rfl; omega); (apply ol_mv; exact rfl; exact rfl); (apply ol_nil))
        | (refine cw_region_id 15 ?_; (apply ol_ldN; exact rfl; exact rfl; exact rfl; exact sz_79; (apply RdN.own; (focus ((repeat constructor); done)); (apply getNK_all; (first | assumption | (rw [List.length_replicate]))))); (apply ol_eff; apply s_storeK; exact rfl; exact rfl; exact sz_79; (focus ((repeat constructor); done)); (first | assumption | (rw [List.length_replicate])); (first | assumption | (rw [List.length_replicate]))); (apply ol_nil))
        | (apply cw_cond_true; exact rfl; (first | exact rfl | assumption))
        | (apply cw_cond_false; exact rfl; (first | exact rfl | assumption))
        | apply cw_skip
        | apply cw_ret
        | apply cw_block
        | apply cw_exit
      refine ends [] (RVal.cellN rfl rfl rfl (RdN.own (by (repeat (first | exact Has.here | apply Has.there))) (getNK_all hal)) RVal.nil) Pick.nil ?_
      rfl
end Go.Proofs.YtkbbbflojebfgaaDoor

/-
  The walks of bytes.Clone and of the reference's constants and padding.
-/
namespace Go.Proofs.YtkbbbflojebfgaaDoor
set_option maxRecDepth 20000
set_option linter.unusedSimpArgs false
set_option linter.unusedVariables false
open Go Go.Fw
attribute [local irreducible] CW OL OD FX Stp FnC Ret
set_option maxHeartbeats 800000

theorem cloneB_spec {w : World} {M : View} (hM : View.le M (View.of w)) {xs : List Int} {n : Nat} (e1 : xs.length = n) {a : Option Addr} {b o c : Nat} (s : SlA M (eK .u8) 1 a xs b o) (hl : xs.length ≤ 4294967296) :
    FnC Tryd.prog 32 [.slice a n c] w (RowRes (eK .u8) 1 5 xs) := by
  subst e1
  refine enterF (M := M) Tryd.func32 rfl rfl rfl rfl hM ?_
  refine cw_none 5 ?_
  repeat' first
    | apply cw_seq
    | (refine cw_region_id 0 ?_; (apply ol_as; exact rfl; exact rfl); (apply ol_nil))
    | (refine cw_region_id 1 ?_; (apply ol_mv; exact rfl; exact rfl); (apply ol_val; exact rfl; apply stp_cmp; apply s_eqnil; exact rfl; exact el_38; all_goals (intro _; try (exfalso; (first | (rename_i hh; exact hh rfl) | omega)))); all_goals (apply ol_nil))
    | (refine cw_region_id 2 ?_; (apply ol_as; exact rfl; exact rfl); (apply ol_nil))
    | (refine cw_region_id 3 ?_; (apply ol_val; exact rfl; apply s_buildSl; exact rfl; exact el_38; exact sz_5; exact zb_5; (focus ((repeat constructor); done)); exact rfl; exact rfl; (exact Nat.le_of_ble_eq_true rfl); (focus ((repeat constructor); done)); (focus ((repeat (first | exact rfl | constructor)); done)); intro _); (apply ol_mv; exact rfl; exact rfl); (apply ol_val; exact rfl; first | (apply s_append_e; exact rfl; exact rfl; (focus ((repeat constructor); done)); exact el_38; exact sz_5; exact zb_5; exact rfl; exact by_5; (first | exact (fun _ => rfl) | (intro _; exact s.at_ (by omega))); (first | (apply RdN.own; (focus ((repeat constructor); done)); (focus ((repeat (first | exact rfl | constructor)); done))) | (apply RdN.view; exact SlA.all (eK_length .u8) s)); (first | exact rfl | exact ones_flat (eK_ones .u8) _); (first | omega | (simp; omega) | (simp; done)); (first | omega | (simp; omega) | (simp; done)); intro _ _ _ _) | (apply s_append_r; exact rfl; exact rfl; (focus ((repeat constructor); done)); (first | exact rfl | exact (List.append_nil _).symm); exact el_38; exact sz_5; exact zb_5; exact rfl; exact by_5; (first | exact SO.nil _ | assumption | (exact ⟨by simp, by simp, Nat.le_refl _, by simp⟩)); (first | exact (fun _ => rfl) | (intro _; exact s.at_ (by omega))); (first | (apply RdN.own; (focus ((repeat constructor); done)); (focus ((repeat (first | exact rfl | constructor)); done))) | (apply RdN.view; exact SlA.all (eK_length .u8) s)); (first | exact rfl | exact ones_flat (eK_ones .u8) _); (first | omega | (simp; omega) | (simp; done)); (first | omega | (simp; omega) | (simp; done)); intro _ _ _ _) | (apply s_append_b; exact rfl; exact rfl; (focus ((repeat constructor); done)); (first | exact rfl | exact (List.append_nil _).symm); exact el_38; exact sz_5; exact zb_5; exact rfl; exact by_5; (first | exact SO.nil _ | assumption | (exact ⟨by simp, by simp, Nat.le_refl _, by simp⟩)); (first | exact (fun _ => rfl) | (intro _; exact s.at_ (by omega))); (first | (apply RdN.own; (focus ((repeat constructor); done)); (focus ((repeat (first | exact rfl | constructor)); done))) | (apply RdN.view; exact SlA.all (eK_length .u8) s)); (first | exact rfl | exact ones_flat (eK_ones .u8) _); (first | omega | (simp; omega) | (simp; done)); (first | omega | (simp; omega) | (simp; done)); intro _ _ _ _) | (apply s_append_n; exact rfl; exact rfl; (focus ((repeat constructor); done)); exact el_38; exact sz_5; exact zb_5; exact rfl; exact by_5; (first | exact (fun _ => rfl) | (intro _; exact s.at_ (by omega))); (first | (apply RdN.own; (focus ((repeat constructor); done)); (focus ((repeat (first | exact rfl | constructor)); done))) | (apply RdN.view; exact SlA.all (eK_length .u8) s)); (first | exact rfl | exact ones_flat (eK_ones .u8) _); (first | omega | (simp; omega) | (simp; done)); (first | omega | (simp; omega) | (simp; done)); intro _ _ _ _)); (apply ol_as; exact rfl; exact rfl); (apply ol_nil))
    | (apply cw_cond_true; exact rfl; (first | exact rfl | assumption))
    | (apply cw_cond_false; exact rfl; (first | exact rfl | assumption))
    | apply cw_skip
    | apply cw_ret
    | apply cw_block
    | apply cw_exit
  · rename_i h
    have hx : xs = [] := by
      cases xs with
      | nil => rfl
      | cons x xs => have := s.at_ (by simp); rw [this] at h; cases h
    subst hx
    refine ends [⟨none, [], 5⟩] (by (repeat (first | exact RVal.nil | (apply RVal.tmp; exact rfl) | (apply RVal.cellN; exact rfl; exact rfl; (fail); apply RdN.own; (focus ((repeat (first | exact Has.here | apply Has.there)); done)); (focus ((repeat (first | exact GetN.nil | (apply GetN.cons; exact rfl))); done))) | (apply RVal.cell1; exact rfl; exact rfl; apply RdN.own; (focus ((repeat (first | exact Has.here | apply Has.there)); done)); exact GetN.cons rfl GetN.nil)))) (by (repeat (first | exact Pick.nil | (apply Pick.cons; (focus ((repeat (first | exact Spl.here | apply Spl.there)); done))) | exact Pick.refl | exact Pick.skip1 | exact Pick.skip2))) ?_
    exact ⟨none, none, 0, [], rfl, rfl, SO.nil 1⟩
  · rename_i bb r sp cap so
    refine ends [⟨r, flat (eK .u8) xs ++ sp, 5⟩] (by (repeat (first | exact RVal.nil | (apply RVal.tmp; exact rfl) | (apply RVal.cellN; exact rfl; exact rfl; (fail); apply RdN.own; (focus ((repeat (first | exact Has.here | apply Has.there)); done)); (focus ((repeat (first | exact GetN.nil | (apply GetN.cons; exact rfl))); done))) | (apply RVal.cell1; exact rfl; exact rfl; apply RdN.own; (focus ((repeat (first | exact Has.here | apply Has.there)); done)); exact GetN.cons rfl GetN.nil)))) (by (repeat (first | exact Pick.nil | (apply Pick.cons; (focus ((repeat (first | exact Spl.here | apply Spl.there)); done))) | exact Pick.refl | exact Pick.skip1 | exact Pick.skip2))) ?_
    exact ⟨r, none, cap, sp, rfl, rfl, so⟩


theorem constants_spec (w : World) : FnC Tryd.prog 45 [] w (RowRes (eK .u32) 1 26 KK) := by
  refine enterF (M := View.of w) Tryd.func45 rfl rfl rfl rfl (View.le.refl _) ?_
  repeat' first
    | apply cw_seq
    | (refine cw_region_id 0 ?_; (apply ol_as; exact rfl; exact rfl); (apply ol_nil))
    | (refine cw_region_id 1 ?_; (apply ol_val; exact rfl; apply s_buildSl; exact rfl; exact el_81; exact sz_26; exact zb_26; (focus ((repeat constructor); done)); exact rfl; exact rfl; (exact Nat.le_of_ble_eq_true rfl); (focus ((repeat constructor); done)); (focus ((repeat (first | exact rfl | constructor)); done)); intro bk1); (apply ol_as; exact rfl; exact rfl); (apply ol_nil))
    | (apply cw_cond_true; exact rfl; (first | exact rfl | assumption))
    | (apply cw_cond_false; exact rfl; (first | exact rfl | assumption))
    | apply cw_skip
    | apply cw_ret
    | apply cw_block
    | apply cw_exit
  refine ends [⟨some bk1, flat (eK .u32) KK ++ [], 26⟩] (RVal.tmp rfl RVal.nil) (by (repeat (first | exact Pick.nil | (apply Pick.cons; (focus ((repeat (first | exact Spl.here | apply Spl.there)); done))) | exact Pick.refl | exact Pick.skip1 | exact Pick.skip2))) ?_
  exact ⟨some bk1, none, 64, [], rfl, rfl, ⟨rfl, rfl, Nat.le_refl _, fun h => by cases h⟩⟩

theorem getNK_row {k : IntKind} {xs : List Int} {sp : List Value} : GetN ((flat (eK k) xs ++ sp)[·]?) 0 (xs.length * 1) (flat (eK k) xs) := by
  refine getN_list ?_ ?_
  · rw [List.drop_zero, Nat.mul_one, List.take_append_of_le_length (by rw [flatK_length]; exact Nat.le_refl _), List.take_of_length_le (by rw [flatK_length]; exact Nat.le_refl _)]
  · rw [List.length_append, flatK_length]; omega

theorem zer_spec (n : Nat) : (n + 1 + zer n) % 64 = 56 ∧ zer n < 64 := by unfold zer; omega
def padN (b : List Int) (k : Nat) : List Int := b ++ [128] ++ List.replicate k 0
theorem padN_length (b : List Int) (k : Nat) : (padN b k).length = b.length + 1 + k := by simp [padN]; omega
theorem padN_succ (b : List Int) (k : Nat) : padN b (k + 1) = padN b k ++ [0] := by simp [padN, List.replicate_succ']
theorem pad_eq (b : List Int) : pad b = padN b (zer b.length) ++ be8 (8 * (b.length : Int)) := rfl

theorem padded_spec {M : View} {w : World} (hM : View.le M (View.of w)) {p : List Int} {n c : Nat} (hn : p.length = n) (hl : n ≤ 1073741824) {a : Option Addr} {b o : Nat} (s : SlA M (eK .u8) 1 a p b o) :
    FnC Tryd.prog 46 [.slice a n c] w (RowRes (eK .u8) 1 5 (pad p)) := by
  subst hn
  refine enterF (M := M) Tryd.func46 rfl rfl rfl rfl hM ?_
  obtain ⟨z1, z2⟩ := zer_spec p.length
  repeat' first
    | apply cw_seq
    | (refine cw_region_id 0 ?_; (apply ol_as; exact rfl; exact rfl); (apply ol_nil))
    | (refine cw_region_id 1 ?_; (apply ol_val; exact rfl; apply s_buildSl; exact rfl; exact el_38; exact sz_5; exact zb_5; (focus ((repeat constructor); done)); exact rfl; exact rfl; (exact Nat.le_of_ble_eq_true rfl); (focus ((repeat constructor); done)); (focus ((repeat (first | exact rfl | constructor)); done)); intro bk4); (apply ol_mv; exact rfl; exact rfl); (apply ol_val; exact rfl; first | (apply s_append_e; exact rfl; exact rfl; (focus ((repeat constructor); done)); exact el_38; exact sz_5; exact zb_5; exact rfl; exact by_5; (first | exact (fun _ => rfl) | (intro _; exact s.at_ (by omega))); (first | (apply RdN.own; (focus ((repeat constructor); done)); (focus ((repeat (first | exact rfl | constructor)); done))) | (apply RdN.view; exact SlA.all (eK_length .u8) s)); (first | exact rfl | exact flatK_ones); (first | omega | (simp; omega) | (simp; done)); (first | omega | (simp; omega) | (simp; done)); intro rk6 sk6 ck6 ok6) | (apply s_append_r; exact rfl; exact rfl; (focus ((repeat constructor); done)); (first | exact rfl | exact (List.append_nil _).symm); exact el_38; exact sz_5; exact zb_5; exact rfl; exact by_5; (first | exact SO.nil _ | assumption | (exact ⟨by simp, by simp, Nat.le_refl _, by simp⟩)); (first | exact (fun _ => rfl) | (intro _; exact s.at_ (by omega))); (first | (apply RdN.own; (focus ((repeat constructor); done)); (focus ((repeat (first | exact rfl | constructor)); done))) | (apply RdN.view; exact SlA.all (eK_length .u8) s)); (first | exact rfl | exact flatK_ones); (first | omega | (simp; omega) | (simp; done)); (first | omega | (simp; omega) | (simp; done)); intro rk6 sk6 ck6 ok6) | (apply s_append_b; exact rfl; exact rfl; (focus ((repeat constructor); done)); (first | exact rfl | exact (List.append_nil _).symm); exact el_38; exact sz_5; exact zb_5; exact rfl; exact by_5; (first | exact SO.nil _ | assumption | (exact ⟨by simp, by simp, Nat.le_refl _, by simp⟩)); (first | exact (fun _ => rfl) | (intro _; exact s.at_ (by omega))); (first | (apply RdN.own; (focus ((repeat constructor); done)); (focus ((repeat (first | exact rfl | constructor)); done))) | (apply RdN.view; exact SlA.all (eK_length .u8) s)); (first | exact rfl | exact flatK_ones); (first | omega | (simp; omega) | (simp; done)); (first | omega | (simp; omega) | (simp; done)); intro rk6 sk6 ck6 ok6) | (apply s_append_n; exact rfl; exact rfl; (focus ((repeat constructor); done)); exact el_38; exact sz_5; exact zb_5; exact rfl; exact by_5; (first | exact (fun _ => rfl) | (intro _; exact s.at_ (by omega))); (first | (apply RdN.own; (focus ((repeat constructor); done)); (focus ((repeat (first | exact rfl | constructor)); done))) | (apply RdN.view; exact SlA.all (eK_length .u8) s)); (first | exact rfl | exact flatK_ones); (first | omega | (simp; omega) | (simp; done)); (first | omega | (simp; omega) | (simp; done)); intro rk6 sk6 ck6 ok6)); (apply ol_val; exact rfl; apply s_buildSl; exact rfl; exact el_38; exact sz_5; exact zb_5; (focus ((repeat constructor); done)); exact rfl; exact rfl; (exact Nat.le_of_ble_eq_true rfl); (focus ((repeat constructor); done)); (focus ((repeat (first | exact rfl | constructor)); done)); intro bk7); (apply ol_val; exact rfl; first | (apply s_append_e; exact rfl; exact rfl; (focus ((repeat constructor); done)); exact el_38; exact sz_5; exact zb_5; exact rfl; exact by_5; (first | exact (fun _ => rfl) | (intro _; exact s.at_ (by omega))); (first | (apply RdN.own; (focus ((repeat constructor); done)); (focus ((repeat (first | exact rfl | constructor)); done))) | (apply RdN.view; exact SlA.all (eK_length .u8) s)); (first | exact rfl | exact flatK_ones); (first | omega | (simp; omega) | (simp; done)); (first | omega | (simp; omega) | (simp; done)); intro rk8 sk8 ck8 ok8) | (apply s_append_r; exact rfl; exact rfl; (focus ((repeat constructor); done)); (first | exact rfl | exact (List.append_nil _).symm); exact el_38; exact sz_5; exact zb_5; exact rfl; exact by_5; (first | exact SO.nil _ | assumption | (exact ⟨by simp, by simp, Nat.le_refl _, by simp⟩)); (first | exact (fun _ => rfl) | (intro _; exact s.at_ (by omega))); (first | (apply RdN.own; (focus ((repeat constructor); done)); (focus ((repeat (first | exact rfl | constructor)); done))) | (apply RdN.view; exact SlA.all (eK_length .u8) s)); (first | exact rfl | exact flatK_ones); (first | omega | (simp; omega) | (simp; done)); (first | omega | (simp; omega) | (simp; done)); intro rk8 sk8 ck8 ok8) | (apply s_append_b; exact rfl; exact rfl; (focus ((repeat constructor); done)); (first | exact rfl | exact (List.append_nil _).symm); exact el_38; exact sz_5; exact zb_5; exact rfl; exact by_5; (first | exact SO.nil _ | assumption | (exact ⟨by simp, by simp, Nat.le_refl _, by simp⟩)); (first | exact (fun _ => rfl) | (intro _; exact s.at_ (by omega))); (first | (apply RdN.own; (focus ((repeat constructor); done)); (focus ((repeat (first | exact rfl | constructor)); done))) | (apply RdN.view; exact SlA.all (eK_length .u8) s)); (first | exact rfl | exact flatK_ones); (first | omega | (simp; omega) | (simp; done)); (first | omega | (simp; omega) | (simp; done)); intro rk8 sk8 ck8 ok8) | (apply s_append_n; exact rfl; exact rfl; (focus ((repeat constructor); done)); exact el_38; exact sz_5; exact zb_5; exact rfl; exact by_5; (first | exact (fun _ => rfl) | (intro _; exact s.at_ (by omega))); (first | (apply RdN.own; (focus ((repeat constructor); done)); (focus ((repeat (first | exact rfl | constructor)); done))) | (apply RdN.view; exact SlA.all (eK_length .u8) s)); (first | exact rfl | exact flatK_ones); (first | omega | (simp; omega) | (simp; done)); (first | omega | (simp; omega) | (simp; done)); intro rk8 sk8 ck8 ok8)); (apply ol_as; exact rfl; exact rfl); (apply ol_nil))
    | (apply cw_cond_true; exact rfl; (first | exact rfl | assumption))
    | (apply cw_cond_false; exact rfl; (first | exact rfl | assumption))
    | apply cw_skip
    | apply cw_ret
    | apply cw_block
    | apply cw_exit
  have e0 : flat (eK .u8) (padN p 0) = flat (eK .u8) p ++ [.int .u8 128] := by simp [padN, flat]
  refine cw_loopK (σ := RSt) [0] (by (repeat (first | exact Keep.nil | (apply Keep.cons; exact rfl)))) (fun s => [(3, .slice (base s.r none) (p.length + 1 + s.k) s.c)]) (fun _ => M) (fun s => [⟨s.r, flat (eK .u8) (padN p s.k) ++ s.sp, 5⟩]) (fun s => s.k ≤ zer p.length ∧ SO s.r (p.length + 1 + s.k) s.c (flat (eK .u8) (padN p s.k)) s.sp 1) (fun s => zer p.length - s.k) ⟨0, rk8, ck8, sk8⟩ (by (repeat (first | exact trivial | refine And.intro rfl ?_))) (View.le.refl _) (by dsimp only; rw [e0]; (repeat (first | exact Pick.nil | (apply Pick.cons; (focus ((repeat (first | exact Spl.here | apply Spl.there)); done))) | exact Pick.refl | exact Pick.skip1 | exact Pick.skip2))) ⟨by dsimp only; omega, by dsimp only; rw [e0]; exact ok8⟩ ?_
  clear ok8 ok6 e0
  rintro ⟨k, r, c', sp⟩ ⟨hk, so⟩
  dsimp only at hk so
  dsimp only
  by_cases hk' : k < zer p.length
  · have hst := padN_succ p k
    repeat' first
      | apply cw_seq
      | (refine cw_region_id 2 ?_; (apply ol_mv; exact rfl; exact rfl); (apply ol_val; exact rfl; apply stp_pur; apply s_len; exact rfl; exact el_38); (apply ol_val; exact rfl; apply stp_pur; first | (apply s_rem64; exact rfl; exact rfl; omega) | (apply s_remT; exact rfl; exact rfl; omega)); (apply ol_val; exact rfl; apply stp_cmp; apply s_neq; exact rfl; exact rfl; all_goals (intro hc12; try (exfalso; (first | exact hc12 rfl | omega)))); all_goals (apply ol_nil))
      | (refine cw_region_id 3 ?_; (apply ol_mv; exact rfl; exact rfl); (apply ol_val; exact rfl; apply s_buildSl; exact rfl; exact el_38; exact sz_5; exact zb_5; (focus ((repeat constructor); done)); exact rfl; exact rfl; (exact Nat.le_of_ble_eq_true rfl); (focus ((repeat constructor); done)); (focus ((repeat (first | exact rfl | constructor)); done)); intro bk14); (apply ol_val; exact rfl; first | (apply s_append_e; exact rfl; exact rfl; (focus ((repeat constructor); done)); exact el_38; exact sz_5; exact zb_5; exact rfl; exact by_5; (first | exact (fun _ => rfl)); (first | (apply RdN.own; (focus ((repeat constructor); done)); (focus ((repeat (first | exact rfl | constructor)); done)))); (first | exact rfl); (first | omega | (simp; omega) | (simp; done)); (first | omega | (simp; omega) | (simp; done)); intro rk15 sk15 ck15 ok15) | (apply s_append_r; exact rfl; exact rfl; (focus ((repeat constructor); done)); (first | exact rfl | exact (List.append_nil _).symm); exact el_38; exact sz_5; exact zb_5; exact rfl; exact by_5; (first | exact SO.nil _ | assumption | (exact ⟨by simp, by simp, Nat.le_refl _, by simp⟩)); (first | exact (fun _ => rfl)); (first | (apply RdN.own; (focus ((repeat constructor); done)); (focus ((repeat (first | exact rfl | constructor)); done)))); (first | exact rfl); (first | omega | (simp; omega) | (simp; done)); (first | omega | (simp; omega) | (simp; done)); intro rk15 sk15 ck15 ok15) | (apply s_append_b; exact rfl; exact rfl; (focus ((repeat constructor); done)); (first | exact rfl | exact (List.append_nil _).symm); exact el_38; exact sz_5; exact zb_5; exact rfl; exact by_5; (first | exact SO.nil _ | assumption | (exact ⟨by simp, by simp, Nat.le_refl _, by simp⟩)); (first | exact (fun _ => rfl)); (first | (apply RdN.own; (focus ((repeat constructor); done)); (focus ((repeat (first | exact rfl | constructor)); done)))); (first | exact rfl); (first | omega | (simp; omega) | (simp; done)); (first | omega | (simp; omega) | (simp; done)); intro rk15 sk15 ck15 ok15) | (apply s_append_n; exact rfl; exact rfl; (focus ((repeat constructor); done)); exact el_38; exact sz_5; exact zb_5; exact rfl; exact by_5; (first | exact (fun _ => rfl)); (first | (apply RdN.own; (focus ((repeat constructor); done)); (focus ((repeat (first | exact rfl | constructor)); done)))); (first | exact rfl); (first | omega | (simp; omega) | (simp; done)); (first | omega | (simp; omega) | (simp; done)); intro rk15 sk15 ck15 ok15)); (apply ol_as; exact rfl; exact rfl); (apply ol_nil))
      | (refine cw_region_id 4 ?_; (apply ol_mv; exact rfl; exact rfl); (apply ol_mv; exact rfl; exact rfl); (apply ol_val; exact rfl; apply stp_pur; apply s_len; exact rfl; exact el_38); (apply ol_val; exact rfl; apply stp_pur; apply s_mul64; exact rfl; exact rfl; omega))
      | (apply cw_cond_true; exact rfl; (first | exact rfl | assumption))
      | (apply cw_cond_false; exact rfl; (first | exact rfl | assumption))
      | apply cw_skip
      | apply cw_ret
      | apply cw_block
      | apply cw_exit
    refine ⟨⟨k + 1, rk15, ck15, sk15⟩, ⟨by (repeat (first | exact trivial | refine And.intro rfl ?_)), View.le.refl _, ?_, ⟨hk', ?_⟩, by dsimp only; omega⟩⟩
    · dsimp only
      rw [hst, flat_append]
      (repeat (first | exact Pick.nil | (apply Pick.cons; (focus ((repeat (first | exact Spl.here | apply Spl.there)); done))) | exact Pick.refl | exact Pick.skip1 | exact Pick.skip2))
    · dsimp only
      rw [hst, flat_append]
      exact ok15
  · have : k = zer p.length := by omega
    subst this
    have hb8 := be8_length (8 * (p.length : Int))
    have he := pad_eq p
    have hl2 := (pad_length p).2
    repeat' first
      | apply cw_seq
      | (refine cw_region_id 2 ?_; (apply ol_mv; exact rfl; exact rfl); (apply ol_val; exact rfl; apply stp_pur; apply s_len; exact rfl; exact el_38); (apply ol_val; exact rfl; apply stp_pur; first | (apply s_rem64; exact rfl; exact rfl; omega) | (apply s_remT; exact rfl; exact rfl; omega)); (apply ol_val; exact rfl; apply stp_cmp; apply s_neq; exact rfl; exact rfl; all_goals (intro hc12; try (exfalso; (first | exact hc12 rfl | omega)))); all_goals (apply ol_nil))
      | (refine cw_region_id 3 ?_; (apply ol_mv; exact rfl; exact rfl); (apply ol_val; exact rfl; apply s_buildSl; exact rfl; exact el_38; exact sz_5; exact zb_5; (focus ((repeat constructor); done)); exact rfl; exact rfl; (exact Nat.le_of_ble_eq_true rfl); (focus ((repeat constructor); done)); (focus ((repeat (first | exact rfl | constructor)); done)); intro bk14); (apply ol_val; exact rfl; first | (apply s_append_e; exact rfl; exact rfl; (focus ((repeat constructor); done)); exact el_38; exact sz_5; exact zb_5; exact rfl; exact by_5; (first | exact (fun _ => rfl) | (intro _; exact (show base (some qb) Ab = _ from rfl))); (first | (apply RdN.own; (focus ((repeat constructor); done)); (focus ((repeat (first | exact rfl | constructor)); done))) | (apply RdN.own; (focus ((repeat constructor); done)); exact getNK_row)); (first | exact rfl | exact flatK_ones); (first | omega | (simp; omega) | (simp; done)); (first | omega | (simp; omega) | (simp; done)); intro rk15 sk15 ck15 ok15) | (apply s_append_r; exact rfl; exact rfl; (focus ((repeat constructor); done)); (first | exact rfl | exact (List.append_nil _).symm); exact el_38; exact sz_5; exact zb_5; exact rfl; exact by_5; (first | exact SO.nil _ | assumption | (exact ⟨by simp, by simp, Nat.le_refl _, by simp⟩)); (first | exact (fun _ => rfl) | (intro _; exact (show base (some qb) Ab = _ from rfl))); (first | (apply RdN.own; (focus ((repeat constructor); done)); (focus ((repeat (first | exact rfl | constructor)); done))) | (apply RdN.own; (focus ((repeat constructor); done)); exact getNK_row)); (first | exact rfl | exact flatK_ones); (first | omega | (simp; omega) | (simp; done)); (first | omega | (simp; omega) | (simp; done)); intro rk15 sk15 ck15 ok15) | (apply s_append_b; exact rfl; exact rfl; (focus ((repeat constructor); done)); (first | exact rfl | exact (List.append_nil _).symm); exact el_38; exact sz_5; exact zb_5; exact rfl; exact by_5; (first | exact SO.nil _ | assumption | (exact ⟨by simp, by simp, Nat.le_refl _, by simp⟩)); (first | exact (fun _ => rfl) | (intro _; exact (show base (some qb) Ab = _ from rfl))); (first | (apply RdN.own; (focus ((repeat constructor); done)); (focus ((repeat (first | exact rfl | constructor)); done))) | (apply RdN.own; (focus ((repeat constructor); done)); exact getNK_row)); (first | exact rfl | exact flatK_ones); (first | omega | (simp; omega) | (simp; done)); (first | omega | (simp; omega) | (simp; done)); intro rk15 sk15 ck15 ok15) | (apply s_append_n; exact rfl; exact rfl; (focus ((repeat constructor); done)); exact el_38; exact sz_5; exact zb_5; exact rfl; exact by_5; (first | exact (fun _ => rfl) | (intro _; exact (show base (some qb) Ab = _ from rfl))); (first | (apply RdN.own; (focus ((repeat constructor); done)); (focus ((repeat (first | exact rfl | constructor)); done))) | (apply RdN.own; (focus ((repeat constructor); done)); exact getNK_row)); (first | exact rfl | exact flatK_ones); (first | omega | (simp; omega) | (simp; done)); (first | omega | (simp; omega) | (simp; done)); intro rk15 sk15 ck15 ok15)); (apply ol_as; exact rfl; exact rfl); (apply ol_nil))
      | (refine cw_region_id 4 ?_; (apply ol_mv; exact rfl; exact rfl); (apply ol_mv; exact rfl; exact rfl); (apply ol_val; exact rfl; apply stp_pur; apply s_len; exact rfl; exact el_38); (apply ol_val; exact rfl; apply stp_pur; apply s_mul64; exact rfl; exact rfl; omega); (apply ol_val; exact rfl; apply s_call; exact rfl; exact gf_55; (intro w' hw'; exact bytes_spec w' _); ((intro v new h; obtain ⟨rb, Ab, cb, sb, rfl, rfl, sob⟩ := h; obtain ⟨qb, rfl⟩ : ∃ q, rb = some q := ⟨_, some_ref sob (by omega)⟩))); (apply ol_val; exact rfl; first | (apply s_append_e; exact rfl; exact rfl; (focus ((repeat constructor); done)); exact el_38; exact sz_5; exact zb_5; exact rfl; exact by_5; (first | exact (fun _ => rfl) | (intro _; exact (show base (some qb) Ab = _ from rfl))); (first | (apply RdN.own; (focus ((repeat constructor); done)); (focus ((repeat (first | exact rfl | constructor)); done))) | (apply RdN.own; (focus ((repeat constructor); done)); exact getNK_row)); (first | exact rfl | exact flatK_ones); (first | omega | (simp; omega) | (simp; done)); (first | omega | (simp; omega) | (simp; done)); intro rk21 sk21 ck21 ok21) | (apply s_append_r; exact rfl; exact rfl; (focus ((repeat constructor); done)); (first | exact rfl | exact (List.append_nil _).symm); exact el_38; exact sz_5; exact zb_5; exact rfl; exact by_5; (first | exact SO.nil _ | assumption | (exact ⟨by simp, by simp, Nat.le_refl _, by simp⟩)); (first | exact (fun _ => rfl) | (intro _; exact (show base (some qb) Ab = _ from rfl))); (first | (apply RdN.own; (focus ((repeat constructor); done)); (focus ((repeat (first | exact rfl | constructor)); done))) | (apply RdN.own; (focus ((repeat constructor); done)); exact getNK_row)); (first | exact rfl | exact flatK_ones); (first | omega | (simp; omega) | (simp; done)); (first | omega | (simp; omega) | (simp; done)); intro rk21 sk21 ck21 ok21) | (apply s_append_b; exact rfl; exact rfl; (focus ((repeat constructor); done)); (first | exact rfl | exact (List.append_nil _).symm); exact el_38; exact sz_5; exact zb_5; exact rfl; exact by_5; (first | exact SO.nil _ | assumption | (exact ⟨by simp, by simp, Nat.le_refl _, by simp⟩)); (first | exact (fun _ => rfl) | (intro _; exact (show base (some qb) Ab = _ from rfl))); (first | (apply RdN.own; (focus ((repeat constructor); done)); (focus ((repeat (first | exact rfl | constructor)); done))) | (apply RdN.own; (focus ((repeat constructor); done)); exact getNK_row)); (first | exact rfl | exact flatK_ones); (first | omega | (simp; omega) | (simp; done)); (first | omega | (simp; omega) | (simp; done)); intro rk21 sk21 ck21 ok21) | (apply s_append_n; exact rfl; exact rfl; (focus ((repeat constructor); done)); exact el_38; exact sz_5; exact zb_5; exact rfl; exact by_5; (first | exact (fun _ => rfl) | (intro _; exact (show base (some qb) Ab = _ from rfl))); (first | (apply RdN.own; (focus ((repeat constructor); done)); (focus ((repeat (first | exact rfl | constructor)); done))) | (apply RdN.own; (focus ((repeat constructor); done)); exact getNK_row)); (first | exact rfl | exact flatK_ones); (first | omega | (simp; omega) | (simp; done)); (first | omega | (simp; omega) | (simp; done)); intro rk21 sk21 ck21 ok21)); (apply ol_as; exact rfl; exact rfl); (apply ol_nil))
      | (apply cw_cond_true; exact rfl; (first | exact rfl | assumption))
      | (apply cw_cond_false; exact rfl; (first | exact rfl | assumption))
      | apply cw_skip
      | apply cw_ret
      | apply cw_block
      | apply cw_exit
    refine ends [⟨rk21, flat (eK .u8) (pad p) ++ sk21, 5⟩] (RVal.tmp rfl RVal.nil) (by rw [he, flat_append]; (repeat (first | exact Pick.nil | (apply Pick.cons; (focus ((repeat (first | exact Spl.here | apply Spl.there)); done))) | exact Pick.refl | exact Pick.skip1 | exact Pick.skip2))) ?_
    refine ⟨rk21, none, ck21, sk21, ?_, rfl, ?_⟩
    · rw [show (pad p).length = p.length + 1 + zer p.length + (be8 (8 * (p.length : Int))).length by omega]
      rfl
    · rw [show (pad p).length = p.length + 1 + zer p.length + (be8 (8 * (p.length : Int))).length by omega, he, flat_append]
      exact ok21
end Go.Proofs.YtkbbbflojebfgaaDoor

/-
  The walk of the hash.
-/
namespace Go.Proofs.YtkbbbflojebfgaaDoor
set_option maxRecDepth 20000
set_option linter.unusedSimpArgs false
set_option linter.unusedVariables false
open Go Go.Fw
attribute [local irreducible] CW OL OD FX Stp FnC Ret
set_option maxHeartbeats 800000

theorem isB.mem {p : List Int} (h : isB p) : ∀ x ∈ p, 0 ≤ x ∧ x ≤ 255 := by
  intro x hx
  obtain ⟨i, hi, rfl⟩ := List.mem_iff_getElem.1 hx
  have := h i
  simpa [List.getD, List.getElem?_eq_getElem hi] using this
theorem isB.of {p : List Int} (h : ∀ x ∈ p, 0 ≤ x ∧ x ≤ 255) : isB p := by
  intro i
  by_cases hi : i < p.length
  · have := h p[i] (List.getElem_mem hi)
    simpa [List.getD, List.getElem?_eq_getElem hi] using this
  · simp [List.getD, List.getElem?_eq_none (Nat.le_of_not_lt hi)]
theorem isB_be8 (n : Int) : isB (be8 n) := .of fun x hx => by
  obtain ⟨i, _, rfl⟩ := List.mem_map.1 hx
  rw [wrapU8]; omega
theorem isB.append {p q : List Int} (h1 : isB p) (h2 : isB q) : isB (p ++ q) := .of fun x hx => (List.mem_append.1 hx).elim (h1.mem x) (h2.mem x)
theorem isB_pad {p : List Int} (h : isB p) : isB (pad p) :=
  ((h.append (.of fun x hx => by simp at hx; omega)).append (.of fun x hx => by rw [(List.mem_replicate.1 hx).2]; omega)).append (isB_be8 _)
theorem isB.part {p : List Int} (h : isB p) (l m : Nat) : isB ((p.drop l).take m) := .of fun x hx => h.mem x (List.mem_of_mem_drop (List.mem_of_mem_take hx))
theorem isB_sha (p : List Int) : isB (sha p) := .of fun x hx => by
  obtain ⟨i, _, rfl⟩ := List.mem_map.1 hx
  rw [wrapU8]; omega

theorem SlA.part {w : World} {q : Nat} {k : IntKind} {xs : List Int} {sp : List Value} {T : TypeId} (hok : OB.ok ⟨some q, flat (eK k) xs ++ sp, T⟩ w) (l m : Nat) : SlA (View.of w) (eK k) 1 (some ⟨q, l, none⟩) ((xs.drop l).take m) q l := by
  refine ⟨fun _ => rfl, fun i hi => ?_⟩
  have hi' : l + i < xs.length := by simp at hi; omega
  have h := (SlA.own (A := none) (eK_length k) hok (fun h => by cases h)).cells (l + i) hi'
  have e : ((xs.drop l).take m)[i] = xs[l + i] := by simp
  rw [e, show l + i * 1 = 0 + (l + i) * 1 by omega]
  exact h

def oA (S : H8) (m : Nat) : List Int := outN S m ++ List.replicate (32 - m) 0
theorem oA_length {S : H8} {m : Nat} (h : m ≤ 32) : (oA S m).length = 32 := by unfold oA; rw [List.length_append, outN_length, List.length_replicate]; omega
theorem oA_step {S : H8} {i k : Nat} (hi : i < 8) (hk : k < 4) : oA S (4 * i + (k + 1)) = (oA S (4 * i + k)).set (4 * i + k) (IntKind.u8.wrap (S.l.getD i 0 / 2 ^ (24 - 8 * (k : Int)).toNat)) := by
  unfold oA
  rw [set_fill (outN_length _ _) (by omega), ← Nat.add_assoc, outN_succ, show (4 * i + k) / 4 = i by omega, show (4 * i + k) % 4 = k by omega, show (24 - 8 * (k : Int)).toNat = 24 - 8 * k by omega]
  rfl
theorem oA_all (S : H8) : oA S 32 = outB S := by simp [oA, outB]

structure BSt where
  n : Nat
  A : Option Addr

theorem sum_spec {M : View} {w : World} (hM : View.le M (View.of w)) (hL : Laid M) {p : List Int} {n c : Nat} (hn : p.length = n) (hl : n ≤ 1073741824) (hb : isB p) {a : Option Addr} {b o : Nat} (s : SlA M (eK .u8) 1 a p b o) :
    FnC Tryd.prog 31 [.slice a n c] w (fun v _ => v = .agg (flat (eK .u8) (sha p)).toArray) := by
  subst hn
  refine enterF (M := M) Tryd.func31 rfl rfl rfl rfl hM ?_
  obtain ⟨z1, z2⟩ := zer_spec p.length
  refine cw_none 5 ?_
  repeat' first
    | apply cw_seq
    | (refine cw_region_id 0 ?_; (apply ol_val; exact rfl; apply s_allocK; exact zk_23; intro bk2); (apply ol_nil))
    | (refine cw_region_id 1 ?_; (apply ol_mv; exact rfl; exact rfl); (apply ol_val; exact rfl; apply s_call; exact rfl; exact gf_32; (intro w' hw'; exact cloneB_spec (View.le.refl (View.of w')) rfl (s.mono hw'.le) (by omega)); ((intro v new h; obtain ⟨r1, A1, c1, s1, rfl, rfl, so1⟩ := h))); (apply ol_val; exact rfl; apply s_buildSl; exact rfl; exact el_38; exact sz_5; exact zb_5; (focus ((repeat constructor); done)); exact rfl; exact rfl; (exact Nat.le_of_ble_eq_true rfl); (focus ((repeat constructor); done)); (focus ((repeat (first | exact rfl | constructor)); done)); intro bk11); (apply ol_val; exact rfl; first | (apply s_append_e; exact rfl; exact rfl; (focus ((repeat constructor); done)); exact el_38; exact sz_5; exact zb_5; exact rfl; exact by_5; (first | exact (fun _ => rfl) | (intro _; exact s.at_ (by omega))); (first | (apply RdN.own; (focus ((repeat constructor); done)); (focus ((repeat (first | exact rfl | constructor)); done)))); (first | exact rfl | exact flatK_ones); (first | omega | (simp; omega) | (simp; done)); (first | omega | (simp; omega) | (simp; done)); intro rk12 sk12 ck12 ok12) | (apply s_append_r; exact rfl; exact rfl; (focus ((repeat constructor); done)); (first | exact rfl | exact (List.append_nil _).symm); exact el_38; exact sz_5; exact zb_5; exact rfl; exact by_5; (first | exact SO.nil _ | assumption | (exact ⟨by simp, by simp, Nat.le_refl _, by simp⟩)); (first | exact (fun _ => rfl) | (intro _; exact s.at_ (by omega))); (first | (apply RdN.own; (focus ((repeat constructor); done)); (focus ((repeat (first | exact rfl | constructor)); done)))); (first | exact rfl | exact flatK_ones); (first | omega | (simp; omega) | (simp; done)); (first | omega | (simp; omega) | (simp; done)); intro rk12 sk12 ck12 ok12) | (apply s_append_b; exact rfl; exact rfl; (focus ((repeat constructor); done)); (first | exact rfl | exact (List.append_nil _).symm); exact el_38; exact sz_5; exact zb_5; exact rfl; exact by_5; (first | exact SO.nil _ | assumption | (exact ⟨by simp, by simp, Nat.le_refl _, by simp⟩)); (first | exact (fun _ => rfl) | (intro _; exact s.at_ (by omega))); (first | (apply RdN.own; (focus ((repeat constructor); done)); (focus ((repeat (first | exact rfl | constructor)); done)))); (first | exact rfl | exact flatK_ones); (first | omega | (simp; omega) | (simp; done)); (first | omega | (simp; omega) | (simp; done)); intro rk12 sk12 ck12 ok12) | (apply s_append_n; exact rfl; exact rfl; (focus ((repeat constructor); done)); exact el_38; exact sz_5; exact zb_5; exact rfl; exact by_5; (first | exact (fun _ => rfl) | (intro _; exact s.at_ (by omega))); (first | (apply RdN.own; (focus ((repeat constructor); done)); (focus ((repeat (first | exact rfl | constructor)); done)))); (first | exact rfl | exact flatK_ones); (first | omega | (simp; omega) | (simp; done)); (first | omega | (simp; omega) | (simp; done)); intro rk12 sk12 ck12 ok12)); (apply ol_as; exact rfl; exact rfl); (apply ol_nil))
    | (apply cw_cond_true; exact rfl; (first | exact rfl | assumption))
    | (apply cw_cond_false; exact rfl; (first | exact rfl | assumption))
    | apply cw_skip
    | apply cw_ret
    | apply cw_block
    | apply cw_exit
  have e0 : flat (eK .u8) (padN p 0) = flat (eK .u8) p ++ [.int .u8 128] := by simp [padN, flat]
  refine cw_loopK (σ := RSt) [0, 2] (by (repeat (first | exact Keep.nil | (apply Keep.cons; exact rfl)))) (fun s => [(3, .slice (base s.r A1) (p.length + 1 + s.k) s.c)]) (fun _ => M) (fun s => [⟨s.r, flat (eK .u8) (padN p s.k) ++ s.sp, 5⟩, ⟨some bk2, flat (eK .u8) (List.replicate 32 0), 23⟩]) (fun s => s.k ≤ zer p.length ∧ SO s.r (p.length + 1 + s.k) s.c (flat (eK .u8) (padN p s.k)) s.sp 1) (fun s => zer p.length - s.k) ⟨0, rk12, ck12, sk12⟩ (by (repeat (first | exact trivial | refine And.intro rfl ?_))) (View.le.refl _) (by dsimp only; rw [e0]; (repeat (first | exact Pick.nil | (apply Pick.cons; (focus ((repeat (first | exact Spl.here | apply Spl.there)); done))) | exact Pick.refl | exact Pick.skip1 | exact Pick.skip2))) ⟨by dsimp only; omega, by dsimp only; rw [e0]; exact ok12⟩ ?_
  clear ok12 so1 e0
  rintro ⟨k, r, c', sp⟩ ⟨hk, so⟩
  dsimp only at hk so
  dsimp only
  by_cases hk' : k < zer p.length
  · have hst := padN_succ p k
    repeat' first
      | apply cw_seq
      | (refine cw_region_id 2 ?_; (apply ol_mv; exact rfl; exact rfl); (apply ol_val; exact rfl; apply stp_pur; apply s_len; exact rfl; exact el_38); (apply ol_val; exact rfl; apply stp_pur; first | (apply s_rem64; exact rfl; exact rfl; omega) | (apply s_remT; exact rfl; exact rfl; omega)); (apply ol_val; exact rfl; apply stp_cmp; apply s_neq; exact rfl; exact rfl; all_goals (intro hc16; try (exfalso; (first | exact hc16 rfl | omega)))); all_goals (apply ol_nil))
      | (refine cw_region_id 3 ?_; (apply ol_mv; exact rfl; exact rfl); (apply ol_val; exact rfl; apply s_buildSl; exact rfl; exact el_38; exact sz_5; exact zb_5; (focus ((repeat constructor); done)); exact rfl; exact rfl; (exact Nat.le_of_ble_eq_true rfl); (focus ((repeat constructor); done)); (focus ((repeat (first | exact rfl | constructor)); done)); intro bk18); (apply ol_val; exact rfl; first | (apply s_append_e; exact rfl; exact rfl; (focus ((repeat constructor); done)); exact el_38; exact sz_5; exact zb_5; exact rfl; exact by_5; (first | exact (fun _ => rfl)); (first | (apply RdN.own; (focus ((repeat constructor); done)); (focus ((repeat (first | exact rfl | constructor)); done)))); (first | exact rfl); (first | omega | (simp; omega) | (simp; done)); (first | omega | (simp; omega) | (simp; done)); intro rk19 sk19 ck19 ok19) | (apply s_append_r; exact rfl; exact rfl; (focus ((repeat constructor); done)); (first | exact rfl | exact (List.append_nil _).symm); exact el_38; exact sz_5; exact zb_5; exact rfl; exact by_5; (first | exact SO.nil _ | assumption | (exact ⟨by simp, by simp, Nat.le_refl _, by simp⟩)); (first | exact (fun _ => rfl)); (first | (apply RdN.own; (focus ((repeat constructor); done)); (focus ((repeat (first | exact rfl | constructor)); done)))); (first | exact rfl); (first | omega | (simp; omega) | (simp; done)); (first | omega | (simp; omega) | (simp; done)); intro rk19 sk19 ck19 ok19) | (apply s_append_b; exact rfl; exact rfl; (focus ((repeat constructor); done)); (first | exact rfl | exact (List.append_nil _).symm); exact el_38; exact sz_5; exact zb_5; exact rfl; exact by_5; (first | exact SO.nil _ | assumption | (exact ⟨by simp, by simp, Nat.le_refl _, by simp⟩)); (first | exact (fun _ => rfl)); (first | (apply RdN.own; (focus ((repeat constructor); done)); (focus ((repeat (first | exact rfl | constructor)); done)))); (first | exact rfl); (first | omega | (simp; omega) | (simp; done)); (first | omega | (simp; omega) | (simp; done)); intro rk19 sk19 ck19 ok19) | (apply s_append_n; exact rfl; exact rfl; (focus ((repeat constructor); done)); exact el_38; exact sz_5; exact zb_5; exact rfl; exact by_5; (first | exact (fun _ => rfl)); (first | (apply RdN.own; (focus ((repeat constructor); done)); (focus ((repeat (first | exact rfl | constructor)); done)))); (first | exact rfl); (first | omega | (simp; omega) | (simp; done)); (first | omega | (simp; omega) | (simp; done)); intro rk19 sk19 ck19 ok19)); (apply ol_as; exact rfl; exact rfl); (apply ol_nil))
      | (refine cw_region_id 4 ?_; (apply ol_mv; exact rfl; exact rfl); (apply ol_mv; exact rfl; exact rfl); (apply ol_val; exact rfl; apply stp_pur; apply s_len; exact rfl; exact el_38); (apply ol_val; exact rfl; apply stp_pur; first | (apply s_conv; exact rfl; exact rfl; exact ti_73; (focus (apply wrap_u64; omega))) | (apply s_conv; exact rfl; exact rfl; exact ti_73; exact rfl)); (apply ol_val; exact rfl; apply stp_pur; apply s_mulW; exact rfl; exact rfl))
      | (refine cw_region_id 5 ?_; (apply ol_ldN; exact rfl; exact rfl; exact rfl; exact sz_79; (apply RdN.own; (focus ((repeat constructor); done)); (apply getNK_all; (first | assumption | (rw [List.length_replicate]))))); (apply ol_val; exact rfl; apply s_allocK; exact zk_79; intro bk4); (apply ol_eff; apply s_storeK; exact rfl; exact rfl; exact sz_79; (focus ((repeat constructor); done)); (first | assumption | (rw [List.length_replicate])); (first | assumption | (rw [List.length_replicate]))); (apply ol_nil))
      | (apply cw_cond_true; exact rfl; (first | exact rfl | assumption))
      | (apply cw_cond_false; exact rfl; (first | exact rfl | assumption))
      | apply cw_skip
      | apply cw_ret
      | apply cw_block
      | apply cw_exit
    refine ⟨⟨k + 1, rk19, ck19, sk19⟩, ⟨by (repeat (first | exact trivial | refine And.intro rfl ?_)), View.le.refl _, ?_, ⟨hk', ?_⟩, by dsimp only; omega⟩⟩
    · dsimp only
      rw [hst, flat_append]
      (repeat (first | exact Pick.nil | (apply Pick.cons; (focus ((repeat (first | exact Spl.here | apply Spl.there)); done))) | exact Pick.refl | exact Pick.skip1 | exact Pick.skip2))
    · dsimp only
      rw [hst, flat_append]
      exact ok19
  · have : k = zer p.length := by omega
    subst this
    have hb8 := be8_length (8 * (p.length : Int))
    have he := pad_eq p
    have hl2 := (pad_length p).2
    have hl3 := (pad_length p).1
    have hcount : ∀ w', FnC Tryd.prog 43 [.int .u64 (IntKind.u64.wrap (8 * (p.length : Int)))] w' (RowRes (eK .u8) 1 5 (be8 (8 * (p.length : Int)))) := fun w' => by
      rw [wrap_u64 (by omega)]; exact count_spec w' _
    have hbp := isB_pad hb
    generalize be8 (8 * (p.length : Int)) = B at *
    repeat' first
      | apply cw_seq
      | (refine cw_region_id 2 ?_; (apply ol_mv; exact rfl; exact rfl); (apply ol_val; exact rfl; apply stp_pur; apply s_len; exact rfl; exact el_38); (apply ol_val; exact rfl; apply stp_pur; first | (apply s_rem64; exact rfl; exact rfl; omega) | (apply s_remT; exact rfl; exact rfl; omega)); (apply ol_val; exact rfl; apply stp_cmp; apply s_neq; exact rfl; exact rfl; all_goals (intro hc16; try (exfalso; (first | exact hc16 rfl | omega)))); all_goals (apply ol_nil))
      | (refine cw_region_id 3 ?_; (apply ol_mv; exact rfl; exact rfl); (apply ol_val; exact rfl; apply s_buildSl; exact rfl; exact el_38; exact sz_5; exact zb_5; (focus ((repeat constructor); done)); exact rfl; exact rfl; (exact Nat.le_of_ble_eq_true rfl); (focus ((repeat constructor); done)); (focus ((repeat (first | exact rfl | constructor)); done)); intro bk18); (apply ol_val; exact rfl; first | (apply s_append_e; exact rfl; exact rfl; (focus ((repeat constructor); done)); exact el_38; exact sz_5; exact zb_5; exact rfl; exact by_5; (first | exact (fun _ => rfl) | (intro _; exact (show base (some qb) Ab = _ from rfl))); (first | (apply RdN.own; (focus ((repeat constructor); done)); (focus ((repeat (first | exact rfl | constructor)); done))) | (apply RdN.own; (focus ((repeat constructor); done)); exact getNK_row)); (first | exact rfl | exact flatK_ones); (first | omega | (simp; omega) | (simp; done)); (first | omega | (simp; omega) | (simp; done)); intro rk19 sk19 ck19 ok19) | (apply s_append_r; exact rfl; exact rfl; (focus ((repeat constructor); done)); (first | exact rfl | exact (List.append_nil _).symm); exact el_38; exact sz_5; exact zb_5; exact rfl; exact by_5; (first | exact SO.nil _ | assumption | (exact ⟨by simp, by simp, Nat.le_refl _, by simp⟩)); (first | exact (fun _ => rfl) | (intro _; exact (show base (some qb) Ab = _ from rfl))); (first | (apply RdN.own; (focus ((repeat constructor); done)); (focus ((repeat (first | exact rfl | constructor)); done))) | (apply RdN.own; (focus ((repeat constructor); done)); exact getNK_row)); (first | exact rfl | exact flatK_ones); (first | omega | (simp; omega) | (simp; done)); (first | omega | (simp; omega) | (simp; done)); intro rk19 sk19 ck19 ok19) | (apply s_append_b; exact rfl; exact rfl; (focus ((repeat constructor); done)); (first | exact rfl | exact (List.append_nil _).symm); exact el_38; exact sz_5; exact zb_5; exact rfl; exact by_5; (first | exact SO.nil _ | assumption | (exact ⟨by simp, by simp, Nat.le_refl _, by simp⟩)); (first | exact (fun _ => rfl) | (intro _; exact (show base (some qb) Ab = _ from rfl))); (first | (apply RdN.own; (focus ((repeat constructor); done)); (focus ((repeat (first | exact rfl | constructor)); done))) | (apply RdN.own; (focus ((repeat constructor); done)); exact getNK_row)); (first | exact rfl | exact flatK_ones); (first | omega | (simp; omega) | (simp; done)); (first | omega | (simp; omega) | (simp; done)); intro rk19 sk19 ck19 ok19) | (apply s_append_n; exact rfl; exact rfl; (focus ((repeat constructor); done)); exact el_38; exact sz_5; exact zb_5; exact rfl; exact by_5; (first | exact (fun _ => rfl) | (intro _; exact (show base (some qb) Ab = _ from rfl))); (first | (apply RdN.own; (focus ((repeat constructor); done)); (focus ((repeat (first | exact rfl | constructor)); done))) | (apply RdN.own; (focus ((repeat constructor); done)); exact getNK_row)); (first | exact rfl | exact flatK_ones); (first | omega | (simp; omega) | (simp; done)); (first | omega | (simp; omega) | (simp; done)); intro rk19 sk19 ck19 ok19)); (apply ol_as; exact rfl; exact rfl); (apply ol_nil))
      | (refine cw_region_id 4 ?_; (apply ol_mv; exact rfl; exact rfl); (apply ol_mv; exact rfl; exact rfl); (apply ol_val; exact rfl; apply stp_pur; apply s_len; exact rfl; exact el_38); (apply ol_val; exact rfl; apply stp_pur; first | (apply s_conv; exact rfl; exact rfl; exact ti_73; (focus (apply wrap_u64; omega))) | (apply s_conv; exact rfl; exact rfl; exact ti_73; exact rfl)); (apply ol_val; exact rfl; apply stp_pur; apply s_mulW; exact rfl; exact rfl); (apply ol_val; exact rfl; apply s_call; exact rfl; exact gf_43; (intro w' hw'; exact hcount w'); ((intro v new h; obtain ⟨rb, Ab, cb, sb, rfl, rfl, sob⟩ := h; obtain ⟨qb, rfl⟩ : ∃ q, rb = some q := ⟨_, some_ref sob (by omega)⟩))); (apply ol_val; exact rfl; first | (apply s_append_e; exact rfl; exact rfl; (focus ((repeat constructor); done)); exact el_38; exact sz_5; exact zb_5; exact rfl; exact by_5; (first | exact (fun _ => rfl) | (intro _; exact (show base (some qb) Ab = _ from rfl))); (first | (apply RdN.own; (focus ((repeat constructor); done)); (focus ((repeat (first | exact rfl | constructor)); done))) | (apply RdN.own; (focus ((repeat constructor); done)); exact getNK_row)); (first | exact rfl | exact flatK_ones); (first | omega | (simp; omega) | (simp; done)); (first | omega | (simp; omega) | (simp; done)); intro rk26 sk26 ck26 ok26) | (apply s_append_r; exact rfl; exact rfl; (focus ((repeat constructor); done)); (first | exact rfl | exact (List.append_nil _).symm); exact el_38; exact sz_5; exact zb_5; exact rfl; exact by_5; (first | exact SO.nil _ | assumption | (exact ⟨by simp, by simp, Nat.le_refl _, by simp⟩)); (first | exact (fun _ => rfl) | (intro _; exact (show base (some qb) Ab = _ from rfl))); (first | (apply RdN.own; (focus ((repeat constructor); done)); (focus ((repeat (first | exact rfl | constructor)); done))) | (apply RdN.own; (focus ((repeat constructor); done)); exact getNK_row)); (first | exact rfl | exact flatK_ones); (first | omega | (simp; omega) | (simp; done)); (first | omega | (simp; omega) | (simp; done)); intro rk26 sk26 ck26 ok26) | (apply s_append_b; exact rfl; exact rfl; (focus ((repeat constructor); done)); (first | exact rfl | exact (List.append_nil _).symm); exact el_38; exact sz_5; exact zb_5; exact rfl; exact by_5; (first | exact SO.nil _ | assumption | (exact ⟨by simp, by simp, Nat.le_refl _, by simp⟩)); (first | exact (fun _ => rfl) | (intro _; exact (show base (some qb) Ab = _ from rfl))); (first | (apply RdN.own; (focus ((repeat constructor); done)); (focus ((repeat (first | exact rfl | constructor)); done))) | (apply RdN.own; (focus ((repeat constructor); done)); exact getNK_row)); (first | exact rfl | exact flatK_ones); (first | omega | (simp; omega) | (simp; done)); (first | omega | (simp; omega) | (simp; done)); intro rk26 sk26 ck26 ok26) | (apply s_append_n; exact rfl; exact rfl; (focus ((repeat constructor); done)); exact el_38; exact sz_5; exact zb_5; exact rfl; exact by_5; (first | exact (fun _ => rfl) | (intro _; exact (show base (some qb) Ab = _ from rfl))); (first | (apply RdN.own; (focus ((repeat constructor); done)); (focus ((repeat (first | exact rfl | constructor)); done))) | (apply RdN.own; (focus ((repeat constructor); done)); exact getNK_row)); (first | exact rfl | exact flatK_ones); (first | omega | (simp; omega) | (simp; done)); (first | omega | (simp; omega) | (simp; done)); intro rk26 sk26 ck26 ok26)); (apply ol_as; exact rfl; exact rfl); (apply ol_nil))
      | (refine cw_region_id 5 ?_; (apply ol_ldN; exact rfl; exact rfl; exact rfl; exact sz_79; (first | (apply RdN.own; (focus ((repeat constructor); done)); (apply getNK_all; (first | assumption | (rw [List.length_replicate]) | exact rfl))) | (apply RdN.view; exact hL.s))); (apply ol_val; exact rfl; apply s_allocK; exact zk_79; intro bk4); (apply ol_eff; apply s_storeK; exact rfl; exact rfl; exact sz_79; (focus ((repeat constructor); done)); (first | assumption | (rw [List.length_replicate]) | exact rfl); (first | assumption | (rw [List.length_replicate]) | exact rfl)); (apply ol_nil))
      | (apply cw_cond_true; exact rfl; (first | exact rfl | assumption))
      | (apply cw_cond_false; exact rfl; (first | exact rfl | assumption))
      | apply cw_skip
      | apply cw_ret
      | apply cw_block
      | apply cw_exit
    have hpl : (pad p).length = p.length + 1 + zer p.length + B.length := by omega
    have he2 : flat (eK .u8) (pad p) = flat (eK .u8) (padN p (zer p.length)) ++ flat (eK .u8) B := by rw [he, flat_append]
    rw [← hpl] at ok26 ⊢
    rw [← he2] at ok26 ⊢
    unfold sha
    generalize pad p = P at *
    obtain ⟨q, rfl⟩ : ∃ q, rk26 = some q := ⟨_, some_ref ok26 (by omega)⟩
    have hcap : P.length ≤ ck26 := ok26.hle
    clear he he2 hpl hb8 hcount ok26 so
    refine cw_loopK (σ := BSt) [2, 4] (by (repeat (first | exact Keep.nil | (apply Keep.cons; exact rfl)))) (fun s => [(3, .slice s.A (P.length - 64 * s.n) (ck26 - 64 * s.n))]) (fun _ => M) (fun s => [⟨some q, flat (eK .u8) P ++ sk26, 5⟩, ⟨some bk4, flat (eK .u32) (blocks P s.n).l, 79⟩, ⟨some bk2, flat (eK .u8) (List.replicate 32 0), 23⟩]) (fun s => 64 * s.n ≤ P.length ∧ (64 * s.n < P.length → s.A = some ⟨q, 64 * s.n, none⟩)) (fun s => P.length - 64 * s.n) ⟨0, some ⟨q, 0, none⟩⟩ (by (repeat (first | exact trivial | refine And.intro rfl ?_))) (View.le.refl _) (by (repeat (first | exact Pick.nil | (apply Pick.cons; (focus ((repeat (first | exact Spl.here | apply Spl.there)); done))) | exact Pick.refl | exact Pick.skip1 | exact Pick.skip2))) ⟨by dsimp only; omega, fun _ => rfl⟩ ?_
    rintro ⟨m, A⟩ ⟨h1, h2⟩
    dsimp only at h1 h2
    dsimp only
    by_cases hm : 64 * m < P.length
    · obtain rfl := h2 hm
      have hst : blocks P (m + 1) = block (blocks P m) ((P.drop (64 * m)).take 64) := rfl
      have hpl : ((P.drop (64 * m)).take 64).length = 64 := by simp; omega
      have hsl : slicedA (some ⟨q, 64 * m, none⟩) 0 (ck26 - 64 * m) 1 = some ⟨q, 64 * m, none⟩ := slicedA_zero
      repeat' first
        | apply cw_seq
        | (refine cw_region_id 6 ?_; (apply ol_mv; exact rfl; exact rfl); (apply ol_val; exact rfl; apply stp_pur; apply s_len; exact rfl; exact el_38); (apply ol_val; exact rfl; apply stp_cmp; apply s_gtr; exact rfl; exact rfl; all_goals (intro hc30; try (exfalso; (first | exact hc30 rfl | omega)))); all_goals (apply ol_nil))
        | (refine cw_draw (id := 8) 4 (.mv 0 (.mv 1 (.mv 2 (.fx 3 (PT.nil))))) mixed (by kernel_rfl) ?_; (apply od_mv; exact rfl; exact rfl; apply s_loadN; exact rfl; exact rfl; exact sz_79; (apply RdN.own; (focus ((repeat constructor); done)); (apply getNK_all; (first | assumption | (rw [List.length_replicate]) | exact rfl)))); (apply od_mv; exact rfl; exact rfl; apply s_move; exact rfl); (apply od_mv; exact rfl; exact rfl; apply s_slice; exact rfl; exact el_38; exact sz_5; exact rfl; exact (show bnd _ _ _ 64 from Exists.intro _ rfl); exact rfl; (intro h; first | exact rfl | cases h); (first | omega | (simp; omega) | (simp; done)); (first | omega | (simp; omega) | (simp; done)); (first | omega | (simp; omega) | (simp; done))); (apply od_fx; (first | exact Wk.refl _ _ | (focus (apply Wk.mk; (first | exact View.le.refl _ | assumption | exact View.le.trans (by assumption) (by assumption)); (repeat constructor); done))); (apply fx_val; exact rfl; exact rfl; apply s_callv; exact rfl; exact gf_44; (intro w' hw'; exact mix_spec (View.le.refl (View.of w')) (hL.mono hw'.le) (blocks P m) hpl rfl (by omega) (hbp.part _ _) (b := q) (o := 64 * m) (by rw [hsl]; exact SlA.part (hw'.ok_ (by (repeat (first | exact Has.here | apply Has.there)))) _ _)))); (apply od_nil; (first | exact Wk.refl _ _ | (focus (apply Wk.mk; (first | exact View.le.refl _ | assumption | exact View.le.trans (by assumption) (by assumption)); (repeat constructor); done)))); (apply ol_eff; apply s_storeK; exact rfl; exact rfl; exact sz_79; (focus ((repeat constructor); done)); (first | assumption | (rw [List.length_replicate]) | exact rfl); (first | assumption | (rw [List.length_replicate]) | exact rfl)); (apply ol_nil))
        | (refine cw_region_id 7 ?_; (apply ol_mv; exact rfl; exact rfl); (apply ol_val; exact rfl; apply stp_pur; apply s_slice; exact rfl; exact el_38; exact sz_5; exact (show bnd _ _ _ 64 from Exists.intro _ rfl); exact rfl; exact rfl; (intro h; first | exact rfl | cases h); (first | omega | (simp; omega) | (simp; done)); (first | omega | (simp; omega) | (simp; done)); (first | omega | (simp; omega) | (simp; done))); (apply ol_as; exact rfl; exact rfl); (apply ol_nil))
        | (refine cw_region_id 9 ?_; (apply ol_val; exact rfl; apply s_allocK; exact zk_23; intro bk5); (apply ol_nil))
        | (refine cw_region_id 10 ?_; (apply ol_ldN; exact rfl; exact rfl; exact rfl; exact sz_79; (apply RdN.own; (focus ((repeat constructor); done)); (apply getNK_all; (first | assumption | (rw [List.length_replicate]) | exact rfl)))); (apply ol_mv; exact rfl; exact rfl); (apply ol_nil))
        | (apply cw_cond_true; exact rfl; (first | exact rfl | assumption))
        | (apply cw_cond_false; exact rfl; (first | exact rfl | assumption))
        | apply cw_skip
        | apply cw_ret
        | apply cw_block
        | apply cw_exit
      refine ⟨⟨m + 1, slicedA (some ⟨q, 64 * m, none⟩) 64 (ck26 - 64 * m) 1⟩, ⟨?_, View.le.refl _, ?_, ⟨by dsimp only; omega, ?_⟩, by dsimp only; omega⟩⟩
      · dsimp only
        rw [show P.length - 64 * (m + 1) = P.length - 64 * m - 64 by omega, show ck26 - 64 * (m + 1) = ck26 - 64 * m - 64 by omega]
        (repeat (first | exact trivial | refine And.intro rfl ?_))
      · dsimp only
        rw [hst]
        (repeat (first | exact Pick.nil | (apply Pick.cons; (focus ((repeat (first | exact Spl.here | apply Spl.there)); done))) | exact Pick.refl | exact Pick.skip1 | exact Pick.skip2))
      · dsimp only
        intro h
        rw [slicedA_some (by omega)]
        rfl
    · have hmm : P.length / 64 = m := by omega
      rw [hmm]
      generalize blocks P m = S at *
      repeat' first
        | apply cw_seq
        | (refine cw_region_id 6 ?_; (apply ol_mv; exact rfl; exact rfl); (apply ol_val; exact rfl; apply stp_pur; apply s_len; exact rfl; exact el_38); (apply ol_val; exact rfl; apply stp_cmp; apply s_gtr; exact rfl; exact rfl; all_goals (intro hc30; try (exfalso; (first | exact hc30 rfl | omega)))); all_goals (apply ol_nil))
        | (refine cw_draw (id := 8) 4 (.mv 0 (.mv 1 (.mv 2 (.fx 3 (PT.nil))))) mixed (by kernel_rfl) ?_; (apply od_mv; exact rfl; exact rfl; apply s_loadN; exact rfl; exact rfl; exact sz_79; (apply RdN.own; (focus ((repeat constructor); done)); (apply getNK_all; (first | assumption | (rw [List.length_replicate]) | exact rfl)))); (apply od_mv; exact rfl; exact rfl; apply s_move; exact rfl); (apply od_mv; exact rfl; exact rfl; apply s_slice; exact rfl; exact el_38; exact sz_5; exact rfl; exact (show bnd _ _ _ 64 from Exists.intro _ rfl); exact rfl; (intro h; first | exact rfl | cases h); (first | omega | (simp; omega) | (simp; done)); (first | omega | (simp; omega) | (simp; done)); (first | omega | (simp; omega) | (simp; done))))
        | (refine cw_region_id 7 ?_; (apply ol_mv; exact rfl; exact rfl); (apply ol_val; exact rfl; apply stp_pur; apply s_slice; exact rfl; exact el_38; exact sz_5; exact (show bnd _ _ _ 64 from Exists.intro _ rfl); exact rfl; exact rfl; (intro h; first | exact rfl | cases h); (first | omega | (simp; omega) | (simp; done)); (first | omega | (simp; omega) | (simp; done)); (first | omega | (simp; omega) | (simp; done))); (apply ol_as; exact rfl; exact rfl); (apply ol_nil))
        | (refine cw_region_id 9 ?_; (apply ol_val; exact rfl; apply s_allocK; exact zk_23; intro bk5); (apply ol_nil))
        | (refine cw_region_id 10 ?_; (apply ol_ldN; exact rfl; exact rfl; exact rfl; exact sz_79; (apply RdN.own; (focus ((repeat constructor); done)); (apply getNK_all; (first | assumption | (rw [List.length_replicate]) | exact rfl)))); (apply ol_mv; exact rfl; exact rfl); (apply ol_nil))
        | (apply cw_cond_true; exact rfl; (first | exact rfl | assumption))
        | (apply cw_cond_false; exact rfl; (first | exact rfl | assumption))
        | apply cw_skip
        | apply cw_ret
        | apply cw_block
        | apply cw_exit
      refine cw_loopK (σ := Nat) [2, 5, 37] (by (repeat (first | exact Keep.nil | (apply Keep.cons; exact rfl)))) (fun i => [(38, .int .i64 i)]) (fun _ => M) (fun i => [⟨some bk5, flat (eK .u8) (oA S (4 * i)), 23⟩, ⟨some bk2, flat (eK .u8) (List.replicate 32 0), 23⟩]) (fun i => i ≤ 8) (fun i => 8 - i) 0 (by (repeat (first | exact trivial | refine And.intro rfl ?_))) (View.le.refl _) (by (repeat (first | exact Pick.nil | (apply Pick.cons; (focus ((repeat (first | exact Spl.here | apply Spl.there)); done))) | exact Pick.refl | exact Pick.skip1 | exact Pick.skip2))) (by omega) ?_
      clear h1 h2 hm hmm
      intro i hi
      try dsimp only
      by_cases hi' : i < 8
      ·
        repeat' first
          | apply cw_seq
          | (refine cw_region_id 11 ?_; (apply ol_val; exact rfl; apply stp_cmp; apply s_lss; exact rfl; exact rfl; all_goals (intro hc39; try (exfalso; (first | exact hc39 rfl | omega)))); all_goals (apply ol_nil))
          | (refine cw_region_id 12 ?_; (apply ol_mv; exact rfl; exact rfl); (apply ol_val; exact rfl; apply stp_pur; first | (apply s_indexVK; exact rfl; exact rfl; exact ar_79; exact sz_26; exact rfl; (first | omega | (simp; omega) | (simp; done)); omega) | (apply s_indexVK; exact rfl; exact rfl; exact ar_79; exact sz_26; exact rfl; exact rfl; omega)); (apply ol_as; exact rfl; exact rfl); (apply ol_as; exact rfl; exact rfl); (apply ol_nil))
          | (refine cw_region_id 13 ?_; (apply ol_mv; exact rfl; exact rfl); (apply ol_nil))
          | (refine cw_region_id 19 ?_; (apply ol_ldN; exact rfl; exact rfl; exact rfl; exact sz_23; (apply RdN.own; (focus ((repeat constructor); done)); (apply getNK_all; (first | assumption | (rw [List.length_replicate]))))); (apply ol_eff; apply s_storeK; exact rfl; exact rfl; exact sz_23; (focus ((repeat constructor); done)); (first | assumption | (rw [List.length_replicate])); (first | assumption | (rw [List.length_replicate]))); (apply ol_nil))
          | (apply cw_cond_true; exact rfl; (first | exact rfl | assumption))
          | (apply cw_cond_false; exact rfl; (first | exact rfl | assumption))
          | apply cw_skip
          | apply cw_ret
          | apply cw_block
          | apply cw_exit
        refine cw_loopK (σ := Nat) [2, 5, 6, 7, 37, 38] (by (repeat (first | exact Keep.nil | (apply Keep.cons; exact rfl)))) (fun k => [(42, .int .i64 k)]) (fun _ => M) (fun k => [⟨some bk5, flat (eK .u8) (oA S (4 * i + k)), 23⟩, ⟨some bk2, flat (eK .u8) (List.replicate 32 0), 23⟩]) (fun k => k ≤ 4) (fun k => 4 - k) 0 (by (repeat (first | exact trivial | refine And.intro rfl ?_))) (View.le.refl _) (by (repeat (first | exact Pick.nil | (apply Pick.cons; (focus ((repeat (first | exact Spl.here | apply Spl.there)); done))) | exact Pick.refl | exact Pick.skip1 | exact Pick.skip2))) (by omega) ?_
        intro k hk
        try dsimp only
        by_cases hk' : k < 4
        · have hst := oA_step (S := S) hi' hk'
          have hol := oA_length (S := S) (m := 4 * i + k) (by omega)
          generalize oA S (4 * i + k) = O at *
          repeat' first
            | apply cw_seq
            | (refine cw_region_id 14 ?_; (apply ol_val; exact rfl; apply stp_cmp; apply s_lss; exact rfl; exact rfl; all_goals (intro hc43; try (exfalso; (first | exact hc43 rfl | omega)))); all_goals (apply ol_nil))
            | (refine cw_region_id 15 ?_; (apply ol_mv; exact rfl; exact rfl); (apply ol_as; exact rfl; exact rfl); (apply ol_nil))
            | (refine cw_region_id 16 ?_; (apply ol_mv; exact rfl; exact rfl); (apply ol_val; exact rfl; apply stp_pur; apply s_mul64; exact rfl; exact rfl; omega); (apply ol_mv; exact rfl; exact rfl); (apply ol_val; exact rfl; apply stp_pur; apply s_add64; exact rfl; exact rfl; omega); (apply ol_mv; exact rfl; exact rfl); (apply ol_mv; exact rfl; exact rfl); (apply ol_val; exact rfl; apply stp_pur; apply s_mul64; exact rfl; exact rfl; omega); (apply ol_val; exact rfl; apply stp_pur; apply s_sub64; exact rfl; exact rfl; omega); (apply ol_val; exact rfl; apply stp_pur; apply s_shr; exact rfl; exact rfl; (first | decide | omega | (simp [IntKind.bits]; omega) | (simp [IntKind.bits]; done))); (apply ol_val; exact rfl; apply stp_pur; first | (apply s_conv; exact rfl; exact rfl; exact ti_5; (focus (apply wrap_u8; omega))) | (apply s_conv; exact rfl; exact rfl; exact ti_5; exact rfl)); (apply ol_val; exact rfl; apply stp_pur; first | (apply s_indexAK; exact rfl; exact rfl; exact ar_23; exact sz_5; omega) | (apply s_indexAO; exact rfl; exact rfl; exact ar_23; exact sz_5; omega)); (apply ol_eff; apply s_store1; exact rfl; exact rfl; exact sz_5; exact rfl; (focus ((repeat constructor); done)); (first | (focus ((repeat constructor); done)) | (apply setAt_ints_app; (first | omega | (simp; omega) | (simp; done))) | (apply setAt_ints; (first | omega | (simp; omega) | (simp; done))) | (apply setAtK0; omega) | (apply SetAt.set; (first | omega | (simp; omega) | (simp; done))))); (apply ol_nil))
            | (refine cw_region_id 17 ?_; (apply ol_val; exact rfl; apply stp_pur; apply s_add64; exact rfl; exact rfl; omega); (apply ol_mv; exact rfl; exact rfl); (apply ol_nil))
            | (refine cw_region_id 18 ?_; (apply ol_val; exact rfl; apply stp_pur; apply s_add64; exact rfl; exact rfl; omega); (apply ol_mv; exact rfl; exact rfl); (apply ol_nil))
            | (apply cw_cond_true; exact rfl; (first | exact rfl | assumption))
            | (apply cw_cond_false; exact rfl; (first | exact rfl | assumption))
            | apply cw_skip
            | apply cw_ret
            | apply cw_block
            | apply cw_exit
          refine ⟨k + 1, ⟨by (repeat (first | exact trivial | refine And.intro rfl ?_)), View.le.refl _, ?_, hk', by omega⟩⟩
          rw [hst]
          (repeat (first | exact Pick.nil | (apply Pick.cons; (focus ((repeat (first | exact Spl.here | apply Spl.there)); done))) | exact Pick.refl | exact Pick.skip1 | exact Pick.skip2))
        · have : k = 4 := by omega
          subst this
          repeat' first
            | apply cw_seq
            | (refine cw_region_id 14 ?_; (apply ol_val; exact rfl; apply stp_cmp; apply s_lss; exact rfl; exact rfl; all_goals (intro hc43; try (exfalso; (first | exact hc43 rfl | omega)))); all_goals (apply ol_nil))
            | (refine cw_region_id 15 ?_; (apply ol_mv; exact rfl; exact rfl); (apply ol_as; exact rfl; exact rfl); (apply ol_nil))
            | (refine cw_region_id 16 ?_; (apply ol_mv; exact rfl; exact rfl); (apply ol_val; exact rfl; apply stp_pur; apply s_mul64; exact rfl; exact rfl; omega); (apply ol_mv; exact rfl; exact rfl); (apply ol_val; exact rfl; apply stp_pur; apply s_add64; exact rfl; exact rfl; omega); (apply ol_mv; exact rfl; exact rfl); (apply ol_mv; exact rfl; exact rfl); (apply ol_val; exact rfl; apply stp_pur; apply s_mul64; exact rfl; exact rfl; omega); (apply ol_val; exact rfl; apply stp_pur; apply s_sub64; exact rfl; exact rfl; omega); (apply ol_val; exact rfl; apply stp_pur; apply s_shr; exact rfl; exact rfl; (first | decide | omega | (simp [IntKind.bits]; omega) | (simp [IntKind.bits]; done))); (apply ol_val; exact rfl; apply stp_pur; first | (apply s_conv; exact rfl; exact rfl; exact ti_5; (focus (apply wrap_u8; omega))) | (apply s_conv; exact rfl; exact rfl; exact ti_5; exact rfl)); (apply ol_val; exact rfl; apply stp_pur; first | (apply s_indexAK; exact rfl; exact rfl; exact ar_23; exact sz_5; omega) | (apply s_indexAO; exact rfl; exact rfl; exact ar_23; exact sz_5; omega)); (apply ol_eff; apply s_store1; exact rfl; exact rfl; exact sz_5; exact rfl; (focus ((repeat constructor); done)); (first | (focus ((repeat constructor); done)) | (apply setAt_ints_app; (first | omega | (simp; omega) | (simp; done))) | (apply setAt_ints; (first | omega | (simp; omega) | (simp; done))) | (apply SetAt.set; (first | omega | (simp; omega) | (simp; done))))); (apply ol_nil))
            | (refine cw_region_id 17 ?_; (apply ol_val; exact rfl; apply stp_pur; apply s_add64; exact rfl; exact rfl; omega); (apply ol_mv; exact rfl; exact rfl); (apply ol_nil))
            | (refine cw_region_id 18 ?_; (apply ol_val; exact rfl; apply stp_pur; apply s_add64; exact rfl; exact rfl; omega); (apply ol_mv; exact rfl; exact rfl); (apply ol_nil))
            | (apply cw_cond_true; exact rfl; (first | exact rfl | assumption))
            | (apply cw_cond_false; exact rfl; (first | exact rfl | assumption))
            | apply cw_skip
            | apply cw_ret
            | apply cw_block
            | apply cw_exit
          exact ⟨i + 1, ⟨by (repeat (first | exact trivial | refine And.intro rfl ?_)), View.le.refl _, by (repeat (first | exact Pick.nil | (apply Pick.cons; (focus ((repeat (first | exact Spl.here | apply Spl.there)); done))) | exact Pick.refl | exact Pick.skip1 | exact Pick.skip2)), hi', by omega⟩⟩
      · have : i = 8 := by omega
        subst this
        have hol := oA_length (S := S) (m := 4 * 8) (by omega)
        have e : oA S (4 * 8) = outB S := oA_all S
        rw [e] at hol ⊢
        clear e
        generalize outB S = O at *
        repeat' first
          | apply cw_seq
          | (refine cw_region_id 11 ?_; (apply ol_val; exact rfl; apply stp_cmp; apply s_lss; exact rfl; exact rfl; all_goals (intro hc39; try (exfalso; (first | exact hc39 rfl | omega)))); all_goals (apply ol_nil))
          | (refine cw_region_id 12 ?_; (apply ol_mv; exact rfl; exact rfl); (apply ol_val; exact rfl; apply stp_pur; apply s_indexVK; exact rfl; exact rfl; exact ar_79; exact sz_26; exact rfl; (first | omega | (simp; omega) | (simp; done)); omega); (apply ol_as; exact rfl; exact rfl); (apply ol_as; exact rfl; exact rfl); (apply ol_nil))
          | (refine cw_region_id 13 ?_; (apply ol_mv; exact rfl; exact rfl); (apply ol_nil))
          | (refine cw_region_id 19 ?_; (apply ol_ldN; exact rfl; exact rfl; exact rfl; exact sz_23; (apply RdN.own; (focus ((repeat constructor); done)); (apply getNK_all; (first | assumption | (rw [List.length_replicate]))))); (apply ol_eff; apply s_storeK; exact rfl; exact rfl; exact sz_23; (focus ((repeat constructor); done)); (first | assumption | (rw [List.length_replicate])); (first | assumption | (rw [List.length_replicate]))); (apply ol_nil))
          | (apply cw_cond_true; exact rfl; (first | exact rfl | assumption))
          | (apply cw_cond_false; exact rfl; (first | exact rfl | assumption))
          | apply cw_skip
          | apply cw_ret
          | apply cw_block
          | apply cw_exit
        refine ends [] (RVal.cellN rfl rfl rfl (RdN.own (by (repeat (first | exact Has.here | apply Has.there))) (getNK_all hol)) RVal.nil) Pick.nil ?_
        rfl
end Go.Proofs.YtkbbbflojebfgaaDoor

/-
  The walk of the reference's hash.
-/
namespace Go.Proofs.YtkbbbflojebfgaaDoor
set_option maxRecDepth 20000
set_option linter.unusedSimpArgs false
set_option linter.unusedVariables false
open Go Go.Fw
attribute [local irreducible] CW OL OD FX Stp FnC Ret KK
set_option maxHeartbeats 1000000

theorem KK_length : KK.length = 64 := by unfold KK; rfl
theorem oA_step1 {S : H8} {i : Nat} (hi : i < 32) : oA S (i + 1) = (oA S i).set i (IntKind.u8.wrap (S.l.getD ((i : Int) / 4).toNat 0 / 2 ^ (24 - 8 * ((i : Int) % 4)).toNat)) := by
  have := oA_step (S := S) (i := i / 4) (k := i % 4) (by omega) (by omega)
  rw [show 4 * (i / 4) + (i % 4 + 1) = i + 1 by omega, show 4 * (i / 4) + i % 4 = i by omega] at this
  rw [this, show ((i : Int) / 4).toNat = i / 4 by omega, show (24 - 8 * ((i : Int) % 4)).toNat = (24 - 8 * ((i % 4 : Nat) : Int)).toNat by omega]

structure VSt where
  k : Nat
  q : Nat
  c : Nat
  sp : List Value

theorem rsum_spec {M : View} {w : World} (hM : View.le M (View.of w)) {p : List Int} {n c : Nat} (hn : p.length = n) (hl : n ≤ 1073741824) (hb : isB p) {a : Option Addr} {b o : Nat} (s : SlA M (eK .u8) 1 a p b o) :
    FnC Tryd.prog 35 [.slice a n c] w (fun v _ => v = .agg (flat (eK .u8) (sha p)).toArray) := by
  subst hn
  refine enterF (M := M) Tryd.func35 rfl rfl rfl rfl hM ?_
  obtain ⟨hl3, hl2⟩ := pad_length p
  obtain ⟨_, z2⟩ := zer_spec p.length
  have hbp := isB_pad hb
  have hpad : ∀ w', View.le M (View.of w') → FnC Tryd.prog 46 [.slice a p.length c] w' (RowRes (eK .u8) 1 5 (pad p)) := fun w' h => padded_spec h rfl hl s
  have hPl : (pad p).length ≤ 2000000000 := by omega
  unfold sha
  generalize pad p = P at *
  repeat' first
    | apply cw_seq
    | (refine cw_region_id 0 ?_; (apply ol_val; exact rfl; apply s_allocK; exact zk_23; intro bk2); (apply ol_nil))
    | (refine cw_region_id 1 ?_; (apply ol_val; exact rfl; apply s_buildSl; exact rfl; exact el_81; exact sz_26; exact zb_26; (focus ((repeat constructor); done)); exact rfl; exact rfl; (exact Nat.le_of_ble_eq_true rfl); (focus ((repeat constructor); done)); (focus ((repeat (first | exact rfl | constructor)); done)); intro bk15); (apply ol_as; exact rfl; exact rfl); (apply ol_nil))
    | (refine cw_region_id 2 ?_; (apply ol_val; exact rfl; apply s_call; exact rfl; exact gf_45; (intro w' hw'; exact constants_spec w'); ((intro v new h; obtain ⟨rk, Ak, ck, sk, rfl, rfl, sok⟩ := h; obtain ⟨qk, rfl⟩ : ∃ q, rk = some q := ⟨_, some_ref sok (by rw [KK_length]; omega)⟩))); (apply ol_as; exact rfl; exact rfl); (apply ol_nil))
    | (refine cw_region_id 3 ?_; (apply ol_mv; exact rfl; exact rfl); (apply ol_val; exact rfl; apply s_call; exact rfl; exact gf_46; (intro w' hw'; exact hpad w' hw'.le); ((intro v new h; obtain ⟨rp, Ap, cp, sp, rfl, rfl, sop⟩ := h; obtain ⟨qp, rfl⟩ : ∃ q, rp = some q := ⟨_, some_ref sop (by omega)⟩))); (apply ol_as; exact rfl; exact rfl); (apply ol_nil))
    | (refine cw_region_id 4 ?_; (apply ol_as; exact rfl; exact rfl); (apply ol_nil))
    | (apply cw_cond_true; exact rfl; (first | exact rfl | assumption))
    | (apply cw_cond_false; exact rfl; (first | exact rfl | assumption))
    | apply cw_skip
    | apply cw_ret
    | apply cw_block
    | apply cw_exit
  have hcap : P.length ≤ cp := sop.hle
  have hk64 := KK_length
  clear sop sok hpad s hb hl2 z2
  rw [hk64]
  refine cw_loopK (σ := Nat) [2, 3, 4, 5] (by (repeat (first | exact Keep.nil | (apply Keep.cons; exact rfl)))) (fun n => [(6, .int .i64 ((64 * n : Nat) : Int))]) (fun _ => M) (fun n => [⟨some qp, flat (eK .u8) P ++ sp, 5⟩, ⟨some qk, flat (eK .u32) KK ++ sk, 26⟩, ⟨some bk15, flat (eK .u32) (blocks P n).l, 26⟩, ⟨some bk2, flat (eK .u8) (List.replicate 32 0), 23⟩]) (fun n => 64 * n ≤ P.length) (fun n => P.length - 64 * n) 0 (by (repeat (first | exact trivial | refine And.intro rfl ?_))) (View.le.refl _) (by (repeat (first | exact Pick.nil | (apply Pick.cons; (focus ((repeat (first | exact Spl.here | apply Spl.there)); done))) | exact Pick.refl | exact Pick.skip1 | exact Pick.skip2))) (by omega) ?_
  intro n hn
  try dsimp only
  by_cases hn' : 64 * n < P.length
  · have hst : blocks P (n + 1) = add8 (blocks P n) (rounds (blocks P n) (sched (words ((P.drop (64 * n)).take 64) 16) 48) 64) := rfl
    have hpl : ((P.drop (64 * n)).take 64).length = 64 := by simp; omega
    have hsl : slicedA (base (some qp) Ap) (64 * n) cp 1 = some ⟨qp, 64 * n, none⟩ := by rw [show base (some qp) Ap = some ⟨qp, 0, none⟩ from rfl, slicedA_some (by omega), Nat.zero_add, Nat.mul_one]
    have hwl : (sched (words ((P.drop (64 * n)).take 64) 16) 48).length = 64 := sched_len _ 48
    have hw : ∀ w', OB.ok ⟨some qp, flat (eK .u8) P ++ sp, 5⟩ w' → FnC Tryd.prog 47 [.slice (slicedA (base (some qp) Ap) (64 * n) cp 1) (64 * n + 64 - 64 * n) (cp - 64 * n)] w' (RowRes (eK .u32) 1 26 (sched (words ((P.drop (64 * n)).take 64) 16) 48)) := fun w' h => by
      rw [hsl, show 64 * n + 64 - 64 * n = 64 by omega]
      exact rwords_spec (View.le.refl (View.of w')) hpl rfl (hbp.part _ _) (SlA.part h _ _)
    generalize sched (words ((P.drop (64 * n)).take 64) 16) 48 = L at *
    clear hbp hpl hsl
    have hst0 := hst
    clear hst
    generalize blocks P n = S at *
    repeat' first
      | apply cw_seq
      | (refine cw_region_id 5 ?_; (apply ol_mv; exact rfl; exact rfl); (apply ol_mv; exact rfl; exact rfl); (apply ol_val; exact rfl; apply stp_pur; apply s_len; exact rfl; exact el_38); (apply ol_val; exact rfl; apply stp_cmp; apply s_lss; exact rfl; exact rfl; all_goals (intro hc22; try (exfalso; (first | exact hc22 rfl | omega)))); all_goals (apply ol_nil))
      | (refine cw_region_id 7 ?_; (apply ol_mv; exact rfl; exact rfl); (apply ol_mv; exact rfl; exact rfl); (apply ol_mv; exact rfl; exact rfl); (apply ol_val; exact rfl; apply stp_pur; apply s_add64; exact rfl; exact rfl; omega); (apply ol_val; exact rfl; apply stp_pur; apply s_slice; exact rfl; exact el_38; exact sz_5; exact Exists.intro _ rfl; exact Exists.intro _ rfl; exact rfl; (intro h; first | exact rfl | cases h); (first | omega | (simp; omega) | (simp; done)); (first | omega | (simp; omega) | (simp; done)); (first | omega | (simp; omega) | (simp; done))); (apply ol_val; exact rfl; apply s_call; exact rfl; exact gf_47; (intro w' hw'; exact hw w' (hw'.ok_ (by (repeat (first | exact Has.here | apply Has.there))))); ((intro v new h; obtain ⟨rW, Aw, cw, sw, rfl, rfl, sow⟩ := h; obtain ⟨qw, rfl⟩ : ∃ q, rW = some q := ⟨_, some_ref sow (by omega)⟩))); (apply ol_as; exact rfl; exact rfl); (apply ol_nil))
      | (refine cw_region_id 8 ?_; (apply ol_val; exact rfl; apply s_buildSl; exact rfl; exact el_81; exact sz_26; exact zb_26; (focus ((repeat constructor); done)); exact rfl; exact rfl; (exact Nat.le_of_ble_eq_true rfl); (focus ((repeat constructor); done)); (focus ((repeat (first | exact rfl | constructor)); done)); intro bk31); (apply ol_mv; exact rfl; exact rfl); (apply ol_val; exact rfl; first | (apply s_append_e; exact rfl; exact rfl; (focus ((repeat constructor); done)); exact el_81; exact sz_26; exact zb_26; exact rfl; exact by_26; (first | exact (fun _ => rfl)); (first | (apply RdN.own; (focus ((repeat constructor); done)); (focus ((repeat (first | exact rfl | constructor)); done)))); (first | exact rfl); (first | omega | (simp; omega) | (simp; done)); (first | omega | (simp; omega) | (simp; done)); intro rk33 sk33 ck33 ok33) | (apply s_append_r; exact rfl; exact rfl; (focus ((repeat constructor); done)); (first | exact rfl | exact (List.append_nil _).symm); exact el_81; exact sz_26; exact zb_26; exact rfl; exact by_26; (first | exact SO.nil _ | assumption | (exact ⟨by simp, by simp, Nat.le_refl _, by simp⟩)); (first | exact (fun _ => rfl)); (first | (apply RdN.own; (focus ((repeat constructor); done)); (focus ((repeat (first | exact rfl | constructor)); done)))); (first | exact rfl); (first | omega | (simp; omega) | (simp; done)); (first | omega | (simp; omega) | (simp; done)); intro rk33 sk33 ck33 ok33) | (apply s_append_b; exact rfl; exact rfl; (focus ((repeat constructor); done)); (first | exact rfl | exact (List.append_nil _).symm); exact el_81; exact sz_26; exact zb_26; exact rfl; exact by_26; (first | exact SO.nil _ | assumption | (exact ⟨by simp, by simp, Nat.le_refl _, by simp⟩)); (first | exact (fun _ => rfl)); (first | (apply RdN.own; (focus ((repeat constructor); done)); (focus ((repeat (first | exact rfl | constructor)); done)))); (first | exact rfl); (first | omega | (simp; omega) | (simp; done)); (first | omega | (simp; omega) | (simp; done)); intro rk33 sk33 ck33 ok33) | (apply s_append_n; exact rfl; exact rfl; (focus ((repeat constructor); done)); exact el_81; exact sz_26; exact zb_26; exact rfl; exact by_26; (first | exact (fun _ => rfl)); (first | (apply RdN.own; (focus ((repeat constructor); done)); (focus ((repeat (first | exact rfl | constructor)); done)))); (first | exact rfl); (first | omega | (simp; omega) | (simp; done)); (first | omega | (simp; omega) | (simp; done)); intro rk33 sk33 ck33 ok33)); (apply ol_as; exact rfl; exact rfl); (apply ol_nil))
      | (refine cw_region_id 9 ?_; (apply ol_as; exact rfl; exact rfl); (apply ol_nil))
      | (refine cw_region_id 19 ?_; (apply ol_val; exact rfl; apply s_allocK; exact zk_23; intro bk13); (apply ol_nil))
      | (refine cw_region_id 20 ?_; (apply ol_as; exact rfl; exact rfl); (apply ol_nil))
      | (apply cw_cond_true; exact rfl; (first | exact rfl | assumption))
      | (apply cw_cond_false; exact rfl; (first | exact rfl | assumption))
      | apply cw_skip
      | apply cw_ret
      | apply cw_block
      | apply cw_exit
    obtain ⟨qv, rfl⟩ : ∃ q, rk33 = some q := ⟨_, some_ref ok33 (by omega)⟩
    clear ok33 sow hw
    refine cw_loopK (σ := VSt) [2, 3, 4, 5, 6, 7] (by (repeat (first | exact Keep.nil | (apply Keep.cons; exact rfl)))) (fun s => [(8, .slice (some ⟨s.q, 0, none⟩) 8 s.c), (9, .int .i64 s.k)]) (fun _ => M) (fun s => [⟨some s.q, flat (eK .u32) (rounds S L s.k).l ++ s.sp, 26⟩, ⟨some qw, flat (eK .u32) L ++ sw, 26⟩, ⟨some qp, flat (eK .u8) P ++ sp, 5⟩, ⟨some qk, flat (eK .u32) KK ++ sk, 26⟩, ⟨some bk15, flat (eK .u32) S.l, 26⟩, ⟨some bk2, flat (eK .u8) (List.replicate 32 0), 23⟩]) (fun s => s.k ≤ 64) (fun s => 64 - s.k) ⟨0, qv, ck33, sk33⟩ (by (repeat (first | exact trivial | refine And.intro rfl ?_))) (View.le.refl _) (by (repeat (first | exact Pick.nil | (apply Pick.cons; (focus ((repeat (first | exact Spl.here | apply Spl.there)); done))) | exact Pick.refl | exact Pick.skip1 | exact Pick.skip2))) (by dsimp only; omega) ?_
    rintro ⟨k, qv', cv', sv'⟩ hk
    dsimp only at hk
    dsimp only
    by_cases hk' : k < 64
    · have hst2 : rounds S L (k + 1) = round (rounds S L k) (KK.getD k 0) (L.getD k 0) := rfl
      generalize rounds S L k = R at *
      repeat' first
        | apply cw_seq
        | (refine cw_region_id 10 ?_; (apply ol_mv; exact rfl; exact rfl); (apply ol_val; exact rfl; apply stp_cmp; apply s_lss; exact rfl; exact rfl; all_goals (intro hc35; try (exfalso; (first | exact hc35 rfl | omega)))); all_goals (apply ol_nil))
        | (refine cw_draw (id := 12) 46 (.mv 0 (.mv 1 (.mv 2 (.mv 3 (.mv 4 (.mv 5 (.mv 7 (.mv 8 (.mv 9 (.mv 12 (.mv 13 (.mv 14 (.mv 18 (.mv 19 (.mv 20 (.mv 21 (.mv 22 (.mv 23 (.mv 24 (.mv 25 (.mv 26 (.mv 27 (.mv 28 (.mv 29 (.mv 30 (.mv 31 (.mv 32 (.mv 33 (.mv 35 (.mv 36 (.mv 37 (.mv 38 (.mv 40 (.mv 41 (.mv 42 (.mv 43 (.fx 6 (.fx 10 (.mv 11 (.fx 15 (.mv 16 (.mv 17 (.mv 34 (.mv 39 (.mv 44 (.mv 45 (PT.nil))))))))))))))))))))))))))))))))))))))))))))))) mixed (by kernel_rfl) ?_; (apply od_mv; exact rfl; exact rfl; apply s_move; exact rfl); (apply od_mv; exact rfl; exact rfl; first | (apply s_indexK; exact rfl; exact rfl; exact el_81; exact sz_26; (first | exact rfl | exact (show base (some qk) Ak = _ from rfl) | exact (show base (some qw) Aw = _ from rfl)); omega) | (apply s_indexO; exact rfl; exact rfl; exact el_81; exact sz_26; (first | exact rfl | exact (show base (some qk) Ak = _ from rfl) | exact (show base (some qw) Aw = _ from rfl)); omega)); (apply od_mv; exact rfl; exact rfl; apply s_load1; exact rfl; exact rfl; (first | (apply RdN.own; (focus ((repeat constructor); done)); (first | exact GetN.cons rfl GetN.nil | (apply getN_ints_app; (first | omega | (simp; omega) | (simp; done))) | (apply getN_ints; (first | omega | (simp; omega) | (simp; done))))) | (apply RdN.own; (focus ((repeat constructor); done)); (apply getNK; omega)))); (apply od_mv; exact rfl; exact rfl; apply s_move; exact rfl); (apply od_mv; exact rfl; exact rfl; first | (apply s_indexK; exact rfl; exact rfl; exact el_81; exact sz_26; (first | exact rfl | exact (show base (some qk) Ak = _ from rfl) | exact (show base (some qw) Aw = _ from rfl)); omega) | (apply s_indexO; exact rfl; exact rfl; exact el_81; exact sz_26; (first | exact rfl | exact (show base (some qk) Ak = _ from rfl) | exact (show base (some qw) Aw = _ from rfl)); omega)); (apply od_mv; exact rfl; exact rfl; apply s_load1; exact rfl; exact rfl; (first | (apply RdN.own; (focus ((repeat constructor); done)); (first | exact GetN.cons rfl GetN.nil | (apply getN_ints_app; (first | omega | (simp; omega) | (simp; done))) | (apply getN_ints; (first | omega | (simp; omega) | (simp; done))))) | (apply RdN.own; (focus ((repeat constructor); done)); (apply getNK; omega)))); (apply od_mv; exact rfl; exact rfl; apply s_move; exact rfl); (apply od_mv; exact rfl; exact rfl; first | (apply s_indexK; exact rfl; exact rfl; exact el_81; exact sz_26; (first | exact rfl | exact (show base (some qk) Ak = _ from rfl) | exact (show base (some qw) Aw = _ from rfl)); omega) | (apply s_indexO; exact rfl; exact rfl; exact el_81; exact sz_26; (first | exact rfl | exact (show base (some qk) Ak = _ from rfl) | exact (show base (some qw) Aw = _ from rfl)); omega)); (apply od_mv; exact rfl; exact rfl; apply s_load1; exact rfl; exact rfl; (first | (apply RdN.own; (focus ((repeat constructor); done)); (first | exact GetN.cons rfl GetN.nil | (apply getN_ints_app; (first | omega | (simp; omega) | (simp; done))) | (apply getN_ints; (first | omega | (simp; omega) | (simp; done))))) | (apply RdN.own; (focus ((repeat constructor); done)); (apply getNK; omega)))); (apply od_mv; exact rfl; exact rfl; apply s_move; exact rfl); (apply od_mv; exact rfl; exact rfl; first | (apply s_indexK; exact rfl; exact rfl; exact el_81; exact sz_26; (first | exact rfl | exact (show base (some qk) Ak = _ from rfl) | exact (show base (some qw) Aw = _ from rfl)); omega) | (apply s_indexO; exact rfl; exact rfl; exact el_81; exact sz_26; (first | exact rfl | exact (show base (some qk) Ak = _ from rfl) | exact (show base (some qw) Aw = _ from rfl)); omega)); (apply od_mv; exact rfl; exact rfl; apply s_load1; exact rfl; exact rfl; (first | (apply RdN.own; (focus ((repeat constructor); done)); (first | exact GetN.cons rfl GetN.nil | (apply getN_ints_app; (first | omega | (simp; omega) | (simp; done))) | (apply getN_ints; (first | omega | (simp; omega) | (simp; done))))) | (apply RdN.own; (focus ((repeat constructor); done)); (apply getNK; omega)))); (apply od_mv; exact rfl; exact rfl; apply s_move; exact rfl); (apply od_mv; exact rfl; exact rfl; first | (apply s_indexK; exact rfl; exact rfl; exact el_81; exact sz_26; (first | exact rfl | exact (show base (some qk) Ak = _ from rfl) | exact (show base (some qw) Aw = _ from rfl)); omega) | (apply s_indexO; exact rfl; exact rfl; exact el_81; exact sz_26; (first | exact rfl | exact (show base (some qk) Ak = _ from rfl) | exact (show base (some qw) Aw = _ from rfl)); omega)); (apply od_mv; exact rfl; exact rfl; apply s_load1; exact rfl; exact rfl; (first | (apply RdN.own; (focus ((repeat constructor); done)); (first | exact GetN.cons rfl GetN.nil | (apply getN_ints_app; (first | omega | (simp; omega) | (simp; done))) | (apply getN_ints; (first | omega | (simp; omega) | (simp; done))))) | (apply RdN.own; (focus ((repeat constructor); done)); (apply getNK; omega)))); (apply od_mv; exact rfl; exact rfl; apply s_move; exact rfl); (apply od_mv; exact rfl; exact rfl; first | (apply s_indexK; exact rfl; exact rfl; exact el_81; exact sz_26; (first | exact rfl | exact (show base (some qk) Ak = _ from rfl) | exact (show base (some qw) Aw = _ from rfl)); omega) | (apply s_indexO; exact rfl; exact rfl; exact el_81; exact sz_26; (first | exact rfl | exact (show base (some qk) Ak = _ from rfl) | exact (show base (some qw) Aw = _ from rfl)); omega)); (apply od_mv; exact rfl; exact rfl; apply s_load1; exact rfl; exact rfl; (first | (apply RdN.own; (focus ((repeat constructor); done)); (first | exact GetN.cons rfl GetN.nil | (apply getN_ints_app; (first | omega | (simp; omega) | (simp; done))) | (apply getN_ints; (first | omega | (simp; omega) | (simp; done))))) | (apply RdN.own; (focus ((repeat constructor); done)); (apply getNK; omega)))); (apply od_mv; exact rfl; exact rfl; apply s_and; exact rfl; exact rfl); (apply od_mv; exact rfl; exact rfl; apply s_move; exact rfl); (apply od_mv; exact rfl; exact rfl; first | (apply s_indexK; exact rfl; exact rfl; exact el_81; exact sz_26; (first | exact rfl | exact (show base (some qk) Ak = _ from rfl) | exact (show base (some qw) Aw = _ from rfl)); omega) | (apply s_indexO; exact rfl; exact rfl; exact el_81; exact sz_26; (first | exact rfl | exact (show base (some qk) Ak = _ from rfl) | exact (show base (some qw) Aw = _ from rfl)); omega)); (apply od_mv; exact rfl; exact rfl; apply s_load1; exact rfl; exact rfl; (first | (apply RdN.own; (focus ((repeat constructor); done)); (first | exact GetN.cons rfl GetN.nil | (apply getN_ints_app; (first | omega | (simp; omega) | (simp; done))) | (apply getN_ints; (first | omega | (simp; omega) | (simp; done))))) | (apply RdN.own; (focus ((repeat constructor); done)); (apply getNK; omega)))); (apply od_mv; exact rfl; exact rfl; apply s_compl32; exact rfl); (apply od_mv; exact rfl; exact rfl; apply s_move; exact rfl); (apply od_mv; exact rfl; exact rfl; first | (apply s_indexK; exact rfl; exact rfl; exact el_81; exact sz_26; (first | exact rfl | exact (show base (some qk) Ak = _ from rfl) | exact (show base (some qw) Aw = _ from rfl)); omega) | (apply s_indexO; exact rfl; exact rfl; exact el_81; exact sz_26; (first | exact rfl | exact (show base (some qk) Ak = _ from rfl) | exact (show base (some qw) Aw = _ from rfl)); omega)); (apply od_mv; exact rfl; exact rfl; apply s_load1; exact rfl; exact rfl; (first | (apply RdN.own; (focus ((repeat constructor); done)); (first | exact GetN.cons rfl GetN.nil | (apply getN_ints_app; (first | omega | (simp; omega) | (simp; done))) | (apply getN_ints; (first | omega | (simp; omega) | (simp; done))))) | (apply RdN.own; (focus ((repeat constructor); done)); (apply getNK; omega)))); (apply od_mv; exact rfl; exact rfl; apply s_and; exact rfl; exact rfl); (apply od_mv; exact rfl; exact rfl; apply s_xor; exact rfl; exact rfl); (apply od_mv; exact rfl; exact rfl; apply s_move; exact rfl); (apply od_mv; exact rfl; exact rfl; apply s_move; exact rfl); (apply od_mv; exact rfl; exact rfl; first | (apply s_indexK; exact rfl; exact rfl; exact el_81; exact sz_26; (first | exact rfl | exact (show base (some qk) Ak = _ from rfl) | exact (show base (some qw) Aw = _ from rfl)); omega) | (apply s_indexO; exact rfl; exact rfl; exact el_81; exact sz_26; (first | exact rfl | exact (show base (some qk) Ak = _ from rfl) | exact (show base (some qw) Aw = _ from rfl)); omega)); (apply od_mv; exact rfl; exact rfl; apply s_load1; exact rfl; exact rfl; (first | (apply RdN.own; (focus ((repeat constructor); done)); (first | exact GetN.cons rfl GetN.nil | (apply getN_ints_app; (first | omega | (simp; omega) | (simp; done))) | (apply getN_ints; (first | omega | (simp; omega) | (simp; done))))) | (apply RdN.own; (focus ((repeat constructor); done)); (apply getNK; omega)))); (apply od_mv; exact rfl; exact rfl; apply s_move; exact rfl); (apply od_mv; exact rfl; exact rfl; apply s_move; exact rfl); (apply od_mv; exact rfl; exact rfl; first | (apply s_indexK; exact rfl; exact rfl; exact el_81; exact sz_26; (first | exact rfl | exact (show base (some qk) Ak = _ from rfl) | exact (show base (some qw) Aw = _ from rfl)); omega) | (apply s_indexO; exact rfl; exact rfl; exact el_81; exact sz_26; (first | exact rfl | exact (show base (some qk) Ak = _ from rfl) | exact (show base (some qw) Aw = _ from rfl)); omega)); (apply od_mv; exact rfl; exact rfl; apply s_load1; exact rfl; exact rfl; (first | (apply RdN.own; (focus ((repeat constructor); done)); (first | exact GetN.cons rfl GetN.nil | (apply getN_ints_app; (first | omega | (simp; omega) | (simp; done))) | (apply getN_ints; (first | omega | (simp; omega) | (simp; done))))) | (apply RdN.own; (focus ((repeat constructor); done)); (apply getNK; omega)))); (apply od_fx; (first | exact Wk.refl _ _ | (focus (apply Wk.mk; (first | exact View.le.refl _ | assumption | exact View.le.trans (by assumption) (by assumption)); (repeat constructor); done))); (apply fx_val; exact rfl; exact rfl; apply s_callv; exact rfl; exact gf_48; (intro w' hw'; exact rright_spec w' _ _ (by decide)))); (apply od_fx; (first | exact Wk.refl _ _ | (focus (apply Wk.mk; (first | exact View.le.refl _ | assumption | exact View.le.trans (by assumption) (by assumption)); (repeat constructor); done))); (apply fx_val; exact rfl; exact rfl; apply s_callv; exact rfl; exact gf_48; (intro w' hw'; exact rright_spec w' _ _ (by decide)))); (apply od_mv; exact rfl; exact rfl; apply s_xor; exact rfl; exact rfl); (apply od_fx; (first | exact Wk.refl _ _ | (focus (apply Wk.mk; (first | exact View.le.refl _ | assumption | exact View.le.trans (by assumption) (by assumption)); (repeat constructor); done))); (apply fx_val; exact rfl; exact rfl; apply s_callv; exact rfl; exact gf_48; (intro w' hw'; exact rright_spec w' _ _ (by decide)))); (apply od_mv; exact rfl; exact rfl; apply s_xor; exact rfl; exact rfl); (apply od_mv; exact rfl; exact rfl; apply s_addW; exact rfl; exact rfl); (apply od_mv; exact rfl; exact rfl; apply s_addW; exact rfl; exact rfl); (apply od_mv; exact rfl; exact rfl; apply s_addW; exact rfl; exact rfl); (apply od_mv; exact rfl; exact rfl; apply s_addW; exact rfl; exact rfl); (apply od_mv; exact rfl; exact rfl; apply s_assign; exact rfl); (apply od_nil; (first | exact Wk.refl _ _ | (focus (apply Wk.mk; (first | exact View.le.refl _ | assumption | exact View.le.trans (by assumption) (by assumption)); (repeat constructor); done)))); (apply ol_nil))
        | (refine cw_draw (id := 13) 39 (.mv 0 (.mv 1 (.mv 2 (.mv 4 (.mv 5 (.mv 6 (.mv 9 (.mv 10 (.mv 11 (.mv 14 (.mv 15 (.mv 16 (.mv 17 (.mv 18 (.mv 19 (.mv 20 (.mv 21 (.mv 22 (.mv 23 (.mv 24 (.mv 25 (.mv 26 (.mv 27 (.mv 28 (.mv 29 (.mv 30 (.mv 31 (.mv 32 (.mv 33 (.mv 34 (.mv 35 (.mv 36 (.fx 3 (.fx 7 (.mv 8 (.fx 12 (.mv 13 (.mv 37 (.mv 38 (PT.nil)))))))))))))))))))))))))))))))))))))))) mixed (by kernel_rfl) ?_; (apply od_mv; exact rfl; exact rfl; apply s_move; exact rfl); (apply od_mv; exact rfl; exact rfl; first | (apply s_indexK; exact rfl; exact rfl; exact el_81; exact sz_26; (first | exact rfl | exact (show base (some qk) Ak = _ from rfl) | exact (show base (some qw) Aw = _ from rfl)); omega) | (apply s_indexO; exact rfl; exact rfl; exact el_81; exact sz_26; (first | exact rfl | exact (show base (some qk) Ak = _ from rfl) | exact (show base (some qw) Aw = _ from rfl)); omega)); (apply od_mv; exact rfl; exact rfl; apply s_load1; exact rfl; exact rfl; (first | (apply RdN.own; (focus ((repeat constructor); done)); (first | exact GetN.cons rfl GetN.nil | (apply getN_ints_app; (first | omega | (simp; omega) | (simp; done))) | (apply getN_ints; (first | omega | (simp; omega) | (simp; done))))) | (apply RdN.own; (focus ((repeat constructor); done)); (apply getNK; omega)))); (apply od_mv; exact rfl; exact rfl; apply s_move; exact rfl); (apply od_mv; exact rfl; exact rfl; first | (apply s_indexK; exact rfl; exact rfl; exact el_81; exact sz_26; (first | exact rfl | exact (show base (some qk) Ak = _ from rfl) | exact (show base (some qw) Aw = _ from rfl)); omega) | (apply s_indexO; exact rfl; exact rfl; exact el_81; exact sz_26; (first | exact rfl | exact (show base (some qk) Ak = _ from rfl) | exact (show base (some qw) Aw = _ from rfl)); omega)); (apply od_mv; exact rfl; exact rfl; apply s_load1; exact rfl; exact rfl; (first | (apply RdN.own; (focus ((repeat constructor); done)); (first | exact GetN.cons rfl GetN.nil | (apply getN_ints_app; (first | omega | (simp; omega) | (simp; done))) | (apply getN_ints; (first | omega | (simp; omega) | (simp; done))))) | (apply RdN.own; (focus ((repeat constructor); done)); (apply getNK; omega)))); (apply od_mv; exact rfl; exact rfl; apply s_move; exact rfl); (apply od_mv; exact rfl; exact rfl; first | (apply s_indexK; exact rfl; exact rfl; exact el_81; exact sz_26; (first | exact rfl | exact (show base (some qk) Ak = _ from rfl) | exact (show base (some qw) Aw = _ from rfl)); omega) | (apply s_indexO; exact rfl; exact rfl; exact el_81; exact sz_26; (first | exact rfl | exact (show base (some qk) Ak = _ from rfl) | exact (show base (some qw) Aw = _ from rfl)); omega)); (apply od_mv; exact rfl; exact rfl; apply s_load1; exact rfl; exact rfl; (first | (apply RdN.own; (focus ((repeat constructor); done)); (first | exact GetN.cons rfl GetN.nil | (apply getN_ints_app; (first | omega | (simp; omega) | (simp; done))) | (apply getN_ints; (first | omega | (simp; omega) | (simp; done))))) | (apply RdN.own; (focus ((repeat constructor); done)); (apply getNK; omega)))); (apply od_mv; exact rfl; exact rfl; apply s_move; exact rfl); (apply od_mv; exact rfl; exact rfl; first | (apply s_indexK; exact rfl; exact rfl; exact el_81; exact sz_26; (first | exact rfl | exact (show base (some qk) Ak = _ from rfl) | exact (show base (some qw) Aw = _ from rfl)); omega) | (apply s_indexO; exact rfl; exact rfl; exact el_81; exact sz_26; (first | exact rfl | exact (show base (some qk) Ak = _ from rfl) | exact (show base (some qw) Aw = _ from rfl)); omega)); (apply od_mv; exact rfl; exact rfl; apply s_load1; exact rfl; exact rfl; (first | (apply RdN.own; (focus ((repeat constructor); done)); (first | exact GetN.cons rfl GetN.nil | (apply getN_ints_app; (first | omega | (simp; omega) | (simp; done))) | (apply getN_ints; (first | omega | (simp; omega) | (simp; done))))) | (apply RdN.own; (focus ((repeat constructor); done)); (apply getNK; omega)))); (apply od_mv; exact rfl; exact rfl; apply s_move; exact rfl); (apply od_mv; exact rfl; exact rfl; first | (apply s_indexK; exact rfl; exact rfl; exact el_81; exact sz_26; (first | exact rfl | exact (show base (some qk) Ak = _ from rfl) | exact (show base (some qw) Aw = _ from rfl)); omega) | (apply s_indexO; exact rfl; exact rfl; exact el_81; exact sz_26; (first | exact rfl | exact (show base (some qk) Ak = _ from rfl) | exact (show base (some qw) Aw = _ from rfl)); omega)); (apply od_mv; exact rfl; exact rfl; apply s_load1; exact rfl; exact rfl; (first | (apply RdN.own; (focus ((repeat constructor); done)); (first | exact GetN.cons rfl GetN.nil | (apply getN_ints_app; (first | omega | (simp; omega) | (simp; done))) | (apply getN_ints; (first | omega | (simp; omega) | (simp; done))))) | (apply RdN.own; (focus ((repeat constructor); done)); (apply getNK; omega)))); (apply od_mv; exact rfl; exact rfl; apply s_and; exact rfl; exact rfl); (apply od_mv; exact rfl; exact rfl; apply s_move; exact rfl); (apply od_mv; exact rfl; exact rfl; first | (apply s_indexK; exact rfl; exact rfl; exact el_81; exact sz_26; (first | exact rfl | exact (show base (some qk) Ak = _ from rfl) | exact (show base (some qw) Aw = _ from rfl)); omega) | (apply s_indexO; exact rfl; exact rfl; exact el_81; exact sz_26; (first | exact rfl | exact (show base (some qk) Ak = _ from rfl) | exact (show base (some qw) Aw = _ from rfl)); omega)); (apply od_mv; exact rfl; exact rfl; apply s_load1; exact rfl; exact rfl; (first | (apply RdN.own; (focus ((repeat constructor); done)); (first | exact GetN.cons rfl GetN.nil | (apply getN_ints_app; (first | omega | (simp; omega) | (simp; done))) | (apply getN_ints; (first | omega | (simp; omega) | (simp; done))))) | (apply RdN.own; (focus ((repeat constructor); done)); (apply getNK; omega)))); (apply od_mv; exact rfl; exact rfl; apply s_move; exact rfl); (apply od_mv; exact rfl; exact rfl; first | (apply s_indexK; exact rfl; exact rfl; exact el_81; exact sz_26; (first | exact rfl | exact (show base (some qk) Ak = _ from rfl) | exact (show base (some qw) Aw = _ from rfl)); omega) | (apply s_indexO; exact rfl; exact rfl; exact el_81; exact sz_26; (first | exact rfl | exact (show base (some qk) Ak = _ from rfl) | exact (show base (some qw) Aw = _ from rfl)); omega)); (apply od_mv; exact rfl; exact rfl; apply s_load1; exact rfl; exact rfl; (first | (apply RdN.own; (focus ((repeat constructor); done)); (first | exact GetN.cons rfl GetN.nil | (apply getN_ints_app; (first | omega | (simp; omega) | (simp; done))) | (apply getN_ints; (first | omega | (simp; omega) | (simp; done))))) | (apply RdN.own; (focus ((repeat constructor); done)); (apply getNK; omega)))); (apply od_mv; exact rfl; exact rfl; apply s_and; exact rfl; exact rfl); (apply od_mv; exact rfl; exact rfl; apply s_xor; exact rfl; exact rfl); (apply od_mv; exact rfl; exact rfl; apply s_move; exact rfl); (apply od_mv; exact rfl; exact rfl; first | (apply s_indexK; exact rfl; exact rfl; exact el_81; exact sz_26; (first | exact rfl | exact (show base (some qk) Ak = _ from rfl) | exact (show base (some qw) Aw = _ from rfl)); omega) | (apply s_indexO; exact rfl; exact rfl; exact el_81; exact sz_26; (first | exact rfl | exact (show base (some qk) Ak = _ from rfl) | exact (show base (some qw) Aw = _ from rfl)); omega)); (apply od_mv; exact rfl; exact rfl; apply s_load1; exact rfl; exact rfl; (first | (apply RdN.own; (focus ((repeat constructor); done)); (first | exact GetN.cons rfl GetN.nil | (apply getN_ints_app; (first | omega | (simp; omega) | (simp; done))) | (apply getN_ints; (first | omega | (simp; omega) | (simp; done))))) | (apply RdN.own; (focus ((repeat constructor); done)); (apply getNK; omega)))); (apply od_mv; exact rfl; exact rfl; apply s_move; exact rfl); (apply od_mv; exact rfl; exact rfl; first | (apply s_indexK; exact rfl; exact rfl; exact el_81; exact sz_26; (first | exact rfl | exact (show base (some qk) Ak = _ from rfl) | exact (show base (some qw) Aw = _ from rfl)); omega) | (apply s_indexO; exact rfl; exact rfl; exact el_81; exact sz_26; (first | exact rfl | exact (show base (some qk) Ak = _ from rfl) | exact (show base (some qw) Aw = _ from rfl)); omega)); (apply od_mv; exact rfl; exact rfl; apply s_load1; exact rfl; exact rfl; (first | (apply RdN.own; (focus ((repeat constructor); done)); (first | exact GetN.cons rfl GetN.nil | (apply getN_ints_app; (first | omega | (simp; omega) | (simp; done))) | (apply getN_ints; (first | omega | (simp; omega) | (simp; done))))) | (apply RdN.own; (focus ((repeat constructor); done)); (apply getNK; omega)))); (apply od_mv; exact rfl; exact rfl; apply s_and; exact rfl; exact rfl); (apply od_mv; exact rfl; exact rfl; apply s_xor; exact rfl; exact rfl); (apply od_fx; (first | exact Wk.refl _ _ | (focus (apply Wk.mk; (first | exact View.le.refl _ | assumption | exact View.le.trans (by assumption) (by assumption)); (repeat constructor); done))); (apply fx_val; exact rfl; exact rfl; apply s_callv; exact rfl; exact gf_48; (intro w' hw'; exact rright_spec w' _ _ (by decide)))); (apply od_fx; (first | exact Wk.refl _ _ | (focus (apply Wk.mk; (first | exact View.le.refl _ | assumption | exact View.le.trans (by assumption) (by assumption)); (repeat constructor); done))); (apply fx_val; exact rfl; exact rfl; apply s_callv; exact rfl; exact gf_48; (intro w' hw'; exact rright_spec w' _ _ (by decide)))); (apply od_mv; exact rfl; exact rfl; apply s_xor; exact rfl; exact rfl); (apply od_fx; (first | exact Wk.refl _ _ | (focus (apply Wk.mk; (first | exact View.le.refl _ | assumption | exact View.le.trans (by assumption) (by assumption)); (repeat constructor); done))); (apply fx_val; exact rfl; exact rfl; apply s_callv; exact rfl; exact gf_48; (intro w' hw'; exact rright_spec w' _ _ (by decide)))); (apply od_mv; exact rfl; exact rfl; apply s_xor; exact rfl; exact rfl); (apply od_mv; exact rfl; exact rfl; apply s_addW; exact rfl; exact rfl); (apply od_mv; exact rfl; exact rfl; apply s_assign; exact rfl); (apply od_nil; (first | exact Wk.refl _ _ | (focus (apply Wk.mk; (first | exact View.le.refl _ | assumption | exact View.le.trans (by assumption) (by assumption)); (repeat constructor); done)))); (apply ol_nil))
        | (refine cw_draw (id := 14) 28 (.mv 0 (.mv 1 (.mv 2 (.mv 3 (.mv 4 (.mv 5 (.mv 6 (.mv 7 (.mv 8 (.mv 9 (.mv 10 (.mv 11 (.mv 12 (.mv 13 (.mv 14 (.mv 15 (.mv 16 (.mv 17 (.mv 18 (.mv 19 (.mv 20 (.mv 21 (.mv 22 (.mv 23 (.mv 24 (.mv 25 (.fx 26 (.mv 27 (PT.nil))))))))))))))))))))))))))))) mixed (by kernel_rfl) ?_; (apply od_mv; exact rfl; exact rfl; apply s_move; exact rfl); (apply od_mv; exact rfl; exact rfl; apply s_move; exact rfl); (apply od_mv; exact rfl; exact rfl; apply s_addW; exact rfl; exact rfl); (apply od_mv; exact rfl; exact rfl; apply s_move; exact rfl); (apply od_mv; exact rfl; exact rfl; first | (apply s_indexK; exact rfl; exact rfl; exact el_81; exact sz_26; (first | exact rfl | exact (show base (some qk) Ak = _ from rfl) | exact (show base (some qw) Aw = _ from rfl)); omega) | (apply s_indexO; exact rfl; exact rfl; exact el_81; exact sz_26; (first | exact rfl | exact (show base (some qk) Ak = _ from rfl) | exact (show base (some qw) Aw = _ from rfl)); omega)); (apply od_mv; exact rfl; exact rfl; apply s_load1; exact rfl; exact rfl; (first | (apply RdN.own; (focus ((repeat constructor); done)); (first | exact GetN.cons rfl GetN.nil | (apply getN_ints_app; (first | omega | (simp; omega) | (simp; done))) | (apply getN_ints; (first | omega | (simp; omega) | (simp; done))))) | (apply RdN.own; (focus ((repeat constructor); done)); (apply getNK; omega)))); (apply od_mv; exact rfl; exact rfl; apply s_move; exact rfl); (apply od_mv; exact rfl; exact rfl; first | (apply s_indexK; exact rfl; exact rfl; exact el_81; exact sz_26; (first | exact rfl | exact (show base (some qk) Ak = _ from rfl) | exact (show base (some qw) Aw = _ from rfl)); omega) | (apply s_indexO; exact rfl; exact rfl; exact el_81; exact sz_26; (first | exact rfl | exact (show base (some qk) Ak = _ from rfl) | exact (show base (some qw) Aw = _ from rfl)); omega)); (apply od_mv; exact rfl; exact rfl; apply s_load1; exact rfl; exact rfl; (first | (apply RdN.own; (focus ((repeat constructor); done)); (first | exact GetN.cons rfl GetN.nil | (apply getN_ints_app; (first | omega | (simp; omega) | (simp; done))) | (apply getN_ints; (first | omega | (simp; omega) | (simp; done))))) | (apply RdN.own; (focus ((repeat constructor); done)); (apply getNK; omega)))); (apply od_mv; exact rfl; exact rfl; apply s_move; exact rfl); (apply od_mv; exact rfl; exact rfl; first | (apply s_indexK; exact rfl; exact rfl; exact el_81; exact sz_26; (first | exact rfl | exact (show base (some qk) Ak = _ from rfl) | exact (show base (some qw) Aw = _ from rfl)); omega) | (apply s_indexO; exact rfl; exact rfl; exact el_81; exact sz_26; (first | exact rfl | exact (show base (some qk) Ak = _ from rfl) | exact (show base (some qw) Aw = _ from rfl)); omega)); (apply od_mv; exact rfl; exact rfl; apply s_load1; exact rfl; exact rfl; (first | (apply RdN.own; (focus ((repeat constructor); done)); (first | exact GetN.cons rfl GetN.nil | (apply getN_ints_app; (first | omega | (simp; omega) | (simp; done))) | (apply getN_ints; (first | omega | (simp; omega) | (simp; done))))) | (apply RdN.own; (focus ((repeat constructor); done)); (apply getNK; omega)))); (apply od_mv; exact rfl; exact rfl; apply s_move; exact rfl); (apply od_mv; exact rfl; exact rfl; first | (apply s_indexK; exact rfl; exact rfl; exact el_81; exact sz_26; (first | exact rfl | exact (show base (some qk) Ak = _ from rfl) | exact (show base (some qw) Aw = _ from rfl)); omega) | (apply s_indexO; exact rfl; exact rfl; exact el_81; exact sz_26; (first | exact rfl | exact (show base (some qk) Ak = _ from rfl) | exact (show base (some qw) Aw = _ from rfl)); omega)); (apply od_mv; exact rfl; exact rfl; apply s_load1; exact rfl; exact rfl; (first | (apply RdN.own; (focus ((repeat constructor); done)); (first | exact GetN.cons rfl GetN.nil | (apply getN_ints_app; (first | omega | (simp; omega) | (simp; done))) | (apply getN_ints; (first | omega | (simp; omega) | (simp; done))))) | (apply RdN.own; (focus ((repeat constructor); done)); (apply getNK; omega)))); (apply od_mv; exact rfl; exact rfl; apply s_move; exact rfl); (apply od_mv; exact rfl; exact rfl; apply s_addW; exact rfl; exact rfl); (apply od_mv; exact rfl; exact rfl; apply s_move; exact rfl); (apply od_mv; exact rfl; exact rfl; first | (apply s_indexK; exact rfl; exact rfl; exact el_81; exact sz_26; (first | exact rfl | exact (show base (some qk) Ak = _ from rfl) | exact (show base (some qw) Aw = _ from rfl)); omega) | (apply s_indexO; exact rfl; exact rfl; exact el_81; exact sz_26; (first | exact rfl | exact (show base (some qk) Ak = _ from rfl) | exact (show base (some qw) Aw = _ from rfl)); omega)); (apply od_mv; exact rfl; exact rfl; apply s_load1; exact rfl; exact rfl; (first | (apply RdN.own; (focus ((repeat constructor); done)); (first | exact GetN.cons rfl GetN.nil | (apply getN_ints_app; (first | omega | (simp; omega) | (simp; done))) | (apply getN_ints; (first | omega | (simp; omega) | (simp; done))))) | (apply RdN.own; (focus ((repeat constructor); done)); (apply getNK; omega)))); (apply od_mv; exact rfl; exact rfl; apply s_move; exact rfl); (apply od_mv; exact rfl; exact rfl; first | (apply s_indexK; exact rfl; exact rfl; exact el_81; exact sz_26; (first | exact rfl | exact (show base (some qk) Ak = _ from rfl) | exact (show base (some qw) Aw = _ from rfl)); omega) | (apply s_indexO; exact rfl; exact rfl; exact el_81; exact sz_26; (first | exact rfl | exact (show base (some qk) Ak = _ from rfl) | exact (show base (some qw) Aw = _ from rfl)); omega)); (apply od_mv; exact rfl; exact rfl; apply s_load1; exact rfl; exact rfl; (first | (apply RdN.own; (focus ((repeat constructor); done)); (first | exact GetN.cons rfl GetN.nil | (apply getN_ints_app; (first | omega | (simp; omega) | (simp; done))) | (apply getN_ints; (first | omega | (simp; omega) | (simp; done))))) | (apply RdN.own; (focus ((repeat constructor); done)); (apply getNK; omega)))); (apply od_mv; exact rfl; exact rfl; apply s_move; exact rfl); (apply od_mv; exact rfl; exact rfl; first | (apply s_indexK; exact rfl; exact rfl; exact el_81; exact sz_26; (first | exact rfl | exact (show base (some qk) Ak = _ from rfl) | exact (show base (some qw) Aw = _ from rfl)); omega) | (apply s_indexO; exact rfl; exact rfl; exact el_81; exact sz_26; (first | exact rfl | exact (show base (some qk) Ak = _ from rfl) | exact (show base (some qw) Aw = _ from rfl)); omega)); (apply od_mv; exact rfl; exact rfl; apply s_load1; exact rfl; exact rfl; (first | (apply RdN.own; (focus ((repeat constructor); done)); (first | exact GetN.cons rfl GetN.nil | (apply getN_ints_app; (first | omega | (simp; omega) | (simp; done))) | (apply getN_ints; (first | omega | (simp; omega) | (simp; done))))) | (apply RdN.own; (focus ((repeat constructor); done)); (apply getNK; omega)))); (apply od_fx; (first | exact Wk.refl _ _ | (focus (apply Wk.mk; (first | exact View.le.refl _ | assumption | exact View.le.trans (by assumption) (by assumption)); (repeat constructor); done))); (apply fx_val; exact rfl; exact rfl; apply s_buildSl; exact rfl; exact el_81; exact sz_26; exact zb_26; (focus ((repeat constructor); done)); exact rfl; exact rfl; (exact Nat.le_of_ble_eq_true rfl); (focus ((repeat constructor); done)); (focus ((repeat (first | exact rfl | constructor)); done)); intro bk147)); (apply od_mv; exact rfl; exact rfl; apply s_assign; exact rfl); (apply od_nil; (first | exact Wk.refl _ _ | (focus (apply Wk.mk; (first | exact View.le.refl _ | assumption | exact View.le.trans (by assumption) (by assumption)); (repeat constructor); done)))); (apply ol_nil))
        | (refine cw_region_id 11 ?_; (apply ol_mv; exact rfl; exact rfl); (apply ol_val; exact rfl; apply stp_pur; apply s_add64; exact rfl; exact rfl; omega); (apply ol_as; exact rfl; exact rfl); (apply ol_nil))
        | (refine cw_region_id 15 ?_; (apply ol_as; exact rfl; exact rfl); (apply ol_nil))
        | (apply cw_cond_true; exact rfl; (first | exact rfl | assumption))
        | (apply cw_cond_false; exact rfl; (first | exact rfl | assumption))
        | apply cw_skip
        | apply cw_ret
        | apply cw_block
        | apply cw_exit
      refine ⟨⟨k + 1, bk147, 8, []⟩, ⟨by (repeat (first | exact trivial | refine And.intro rfl ?_)), View.le.refl _, ?_, hk', by dsimp only; omega⟩⟩
      dsimp only
      rw [hst2]
      (repeat (first | exact Pick.nil | (apply Pick.cons; (focus ((repeat (first | exact Spl.here | apply Spl.there)); done))) | exact Pick.refl | exact Pick.skip1 | exact Pick.skip2))
    · have : k = 64 := by omega
      subst this
      generalize rounds S L 64 = R at *
      repeat' first
        | apply cw_seq
        | (refine cw_region_id 10 ?_; (apply ol_mv; exact rfl; exact rfl); (apply ol_val; exact rfl; apply stp_cmp; apply s_lss; exact rfl; exact rfl; all_goals (intro hc35; try (exfalso; (first | exact hc35 rfl | omega)))); all_goals (apply ol_nil))
        | (refine cw_draw (id := 12) 46 (.mv 0 (.mv 1 (.mv 2 (.mv 3 (.mv 4 (.mv 5 (.mv 7 (.mv 8 (.mv 9 (.mv 12 (.mv 13 (.mv 14 (.mv 18 (.mv 19 (.mv 20 (.mv 21 (.mv 22 (.mv 23 (.mv 24 (.mv 25 (.mv 26 (.mv 27 (.mv 28 (.mv 29 (.mv 30 (.mv 31 (.mv 32 (.mv 33 (.mv 35 (.mv 36 (.mv 37 (.mv 38 (.mv 40 (.mv 41 (.mv 42 (.mv 43 (.fx 6 (.fx 10 (.mv 11 (.fx 15 (.mv 16 (.mv 17 (.mv 34 (.mv 39 (.mv 44 (.mv 45 (PT.nil))))))))))))))))))))))))))))))))))))))))))))))) mixed (by kernel_rfl) ?_; (apply od_mv; exact rfl; exact rfl; apply s_move; exact rfl); (apply od_mv; exact rfl; exact rfl; first | (apply s_indexK; exact rfl; exact rfl; exact el_81; exact sz_26; (first | exact rfl); omega) | (apply s_indexO; exact rfl; exact rfl; exact el_81; exact sz_26; (first | exact rfl); omega)); (apply od_mv; exact rfl; exact rfl; apply s_load1; exact rfl; exact rfl; (apply RdN.own; (focus ((repeat constructor); done)); (first | exact GetN.cons rfl GetN.nil | (apply getN_ints_app; (first | omega | (simp; omega) | (simp; done))) | (apply getN_ints; (first | omega | (simp; omega) | (simp; done)))))); (apply od_mv; exact rfl; exact rfl; apply s_move; exact rfl); (apply od_mv; exact rfl; exact rfl; first | (apply s_indexK; exact rfl; exact rfl; exact el_81; exact sz_26; (first | exact rfl); omega) | (apply s_indexO; exact rfl; exact rfl; exact el_81; exact sz_26; (first | exact rfl); omega)); (apply od_mv; exact rfl; exact rfl; apply s_load1; exact rfl; exact rfl; (apply RdN.own; (focus ((repeat constructor); done)); (first | exact GetN.cons rfl GetN.nil | (apply getN_ints_app; (first | omega | (simp; omega) | (simp; done))) | (apply getN_ints; (first | omega | (simp; omega) | (simp; done)))))); (apply od_mv; exact rfl; exact rfl; apply s_move; exact rfl); (apply od_mv; exact rfl; exact rfl; first | (apply s_indexK; exact rfl; exact rfl; exact el_81; exact sz_26; (first | exact rfl); omega) | (apply s_indexO; exact rfl; exact rfl; exact el_81; exact sz_26; (first | exact rfl); omega)); (apply od_mv; exact rfl; exact rfl; apply s_load1; exact rfl; exact rfl; (apply RdN.own; (focus ((repeat constructor); done)); (first | exact GetN.cons rfl GetN.nil | (apply getN_ints_app; (first | omega | (simp; omega) | (simp; done))) | (apply getN_ints; (first | omega | (simp; omega) | (simp; done)))))); (apply od_mv; exact rfl; exact rfl; apply s_move; exact rfl); (apply od_mv; exact rfl; exact rfl; first | (apply s_indexK; exact rfl; exact rfl; exact el_81; exact sz_26; (first | exact rfl); omega) | (apply s_indexO; exact rfl; exact rfl; exact el_81; exact sz_26; (first | exact rfl); omega)); (apply od_mv; exact rfl; exact rfl; apply s_load1; exact rfl; exact rfl; (apply RdN.own; (focus ((repeat constructor); done)); (first | exact GetN.cons rfl GetN.nil | (apply getN_ints_app; (first | omega | (simp; omega) | (simp; done))) | (apply getN_ints; (first | omega | (simp; omega) | (simp; done)))))); (apply od_mv; exact rfl; exact rfl; apply s_move; exact rfl); (apply od_mv; exact rfl; exact rfl; first | (apply s_indexK; exact rfl; exact rfl; exact el_81; exact sz_26; (first | exact rfl); omega) | (apply s_indexO; exact rfl; exact rfl; exact el_81; exact sz_26; (first | exact rfl); omega)); (apply od_mv; exact rfl; exact rfl; apply s_load1; exact rfl; exact rfl; (apply RdN.own; (focus ((repeat constructor); done)); (first | exact GetN.cons rfl GetN.nil | (apply getN_ints_app; (first | omega | (simp; omega) | (simp; done))) | (apply getN_ints; (first | omega | (simp; omega) | (simp; done)))))); (apply od_mv; exact rfl; exact rfl; apply s_move; exact rfl); (apply od_mv; exact rfl; exact rfl; first | (apply s_indexK; exact rfl; exact rfl; exact el_81; exact sz_26; (first | exact rfl); omega) | (apply s_indexO; exact rfl; exact rfl; exact el_81; exact sz_26; (first | exact rfl); omega)); (apply od_mv; exact rfl; exact rfl; apply s_load1; exact rfl; exact rfl; (apply RdN.own; (focus ((repeat constructor); done)); (first | exact GetN.cons rfl GetN.nil | (apply getN_ints_app; (first | omega | (simp; omega) | (simp; done))) | (apply getN_ints; (first | omega | (simp; omega) | (simp; done)))))); (apply od_mv; exact rfl; exact rfl; apply s_and; exact rfl; exact rfl); (apply od_mv; exact rfl; exact rfl; apply s_move; exact rfl); (apply od_mv; exact rfl; exact rfl; first | (apply s_indexK; exact rfl; exact rfl; exact el_81; exact sz_26; (first | exact rfl); omega) | (apply s_indexO; exact rfl; exact rfl; exact el_81; exact sz_26; (first | exact rfl); omega)); (apply od_mv; exact rfl; exact rfl; apply s_load1; exact rfl; exact rfl; (apply RdN.own; (focus ((repeat constructor); done)); (first | exact GetN.cons rfl GetN.nil | (apply getN_ints_app; (first | omega | (simp; omega) | (simp; done))) | (apply getN_ints; (first | omega | (simp; omega) | (simp; done)))))); (apply od_mv; exact rfl; exact rfl; apply s_compl32; exact rfl); (apply od_mv; exact rfl; exact rfl; apply s_move; exact rfl); (apply od_mv; exact rfl; exact rfl; first | (apply s_indexK; exact rfl; exact rfl; exact el_81; exact sz_26; (first | exact rfl); omega) | (apply s_indexO; exact rfl; exact rfl; exact el_81; exact sz_26; (first | exact rfl); omega)); (apply od_mv; exact rfl; exact rfl; apply s_load1; exact rfl; exact rfl; (apply RdN.own; (focus ((repeat constructor); done)); (first | exact GetN.cons rfl GetN.nil | (apply getN_ints_app; (first | omega | (simp; omega) | (simp; done))) | (apply getN_ints; (first | omega | (simp; omega) | (simp; done)))))); (apply od_mv; exact rfl; exact rfl; apply s_and; exact rfl; exact rfl); (apply od_mv; exact rfl; exact rfl; apply s_xor; exact rfl; exact rfl); (apply od_mv; exact rfl; exact rfl; apply s_move; exact rfl); (apply od_mv; exact rfl; exact rfl; apply s_move; exact rfl); (apply od_mv; exact rfl; exact rfl; first | (apply s_indexK; exact rfl; exact rfl; exact el_81; exact sz_26; (first | exact rfl); omega) | (apply s_indexO; exact rfl; exact rfl; exact el_81; exact sz_26; (first | exact rfl); omega)); (apply od_mv; exact rfl; exact rfl; apply s_load1; exact rfl; exact rfl; (apply RdN.own; (focus ((repeat constructor); done)); (first | exact GetN.cons rfl GetN.nil | (apply getN_ints_app; (first | omega | (simp; omega) | (simp; done))) | (apply getN_ints; (first | omega | (simp; omega) | (simp; done)))))); (apply od_mv; exact rfl; exact rfl; apply s_move; exact rfl); (apply od_mv; exact rfl; exact rfl; apply s_move; exact rfl); (apply od_mv; exact rfl; exact rfl; first | (apply s_indexK; exact rfl; exact rfl; exact el_81; exact sz_26; (first | exact rfl); omega) | (apply s_indexO; exact rfl; exact rfl; exact el_81; exact sz_26; (first | exact rfl); omega)); (apply od_mv; exact rfl; exact rfl; apply s_load1; exact rfl; exact rfl; (apply RdN.own; (focus ((repeat constructor); done)); (first | exact GetN.cons rfl GetN.nil | (apply getN_ints_app; (first | omega | (simp; omega) | (simp; done))) | (apply getN_ints; (first | omega | (simp; omega) | (simp; done)))))))
        | (refine cw_draw (id := 13) 39 (.mv 0 (.mv 1 (.mv 2 (.mv 4 (.mv 5 (.mv 6 (.mv 9 (.mv 10 (.mv 11 (.mv 14 (.mv 15 (.mv 16 (.mv 17 (.mv 18 (.mv 19 (.mv 20 (.mv 21 (.mv 22 (.mv 23 (.mv 24 (.mv 25 (.mv 26 (.mv 27 (.mv 28 (.mv 29 (.mv 30 (.mv 31 (.mv 32 (.mv 33 (.mv 34 (.mv 35 (.mv 36 (.fx 3 (.fx 7 (.mv 8 (.fx 12 (.mv 13 (.mv 37 (.mv 38 (PT.nil)))))))))))))))))))))))))))))))))))))))) mixed (by kernel_rfl) ?_; (apply od_mv; exact rfl; exact rfl; apply s_move; exact rfl); (apply od_mv; exact rfl; exact rfl; first | (apply s_indexK; exact rfl; exact rfl; exact el_81; exact sz_26; (first | exact rfl); omega) | (apply s_indexO; exact rfl; exact rfl; exact el_81; exact sz_26; (first | exact rfl); omega)); (apply od_mv; exact rfl; exact rfl; apply s_load1; exact rfl; exact rfl; (apply RdN.own; (focus ((repeat constructor); done)); (first | exact GetN.cons rfl GetN.nil | (apply getN_ints_app; (first | omega | (simp; omega) | (simp; done))) | (apply getN_ints; (first | omega | (simp; omega) | (simp; done)))))); (apply od_mv; exact rfl; exact rfl; apply s_move; exact rfl); (apply od_mv; exact rfl; exact rfl; first | (apply s_indexK; exact rfl; exact rfl; exact el_81; exact sz_26; (first | exact rfl); omega) | (apply s_indexO; exact rfl; exact rfl; exact el_81; exact sz_26; (first | exact rfl); omega)); (apply od_mv; exact rfl; exact rfl; apply s_load1; exact rfl; exact rfl; (apply RdN.own; (focus ((repeat constructor); done)); (first | exact GetN.cons rfl GetN.nil | (apply getN_ints_app; (first | omega | (simp; omega) | (simp; done))) | (apply getN_ints; (first | omega | (simp; omega) | (simp; done)))))); (apply od_mv; exact rfl; exact rfl; apply s_move; exact rfl); (apply od_mv; exact rfl; exact rfl; first | (apply s_indexK; exact rfl; exact rfl; exact el_81; exact sz_26; (first | exact rfl); omega) | (apply s_indexO; exact rfl; exact rfl; exact el_81; exact sz_26; (first | exact rfl); omega)); (apply od_mv; exact rfl; exact rfl; apply s_load1; exact rfl; exact rfl; (apply RdN.own; (focus ((repeat constructor); done)); (first | exact GetN.cons rfl GetN.nil | (apply getN_ints_app; (first | omega | (simp; omega) | (simp; done))) | (apply getN_ints; (first | omega | (simp; omega) | (simp; done)))))); (apply od_mv; exact rfl; exact rfl; apply s_move; exact rfl); (apply od_mv; exact rfl; exact rfl; first | (apply s_indexK; exact rfl; exact rfl; exact el_81; exact sz_26; (first | exact rfl); omega) | (apply s_indexO; exact rfl; exact rfl; exact el_81; exact sz_26; (first | exact rfl); omega)); (apply od_mv; exact rfl; exact rfl; apply s_load1; exact rfl; exact rfl; (apply RdN.own; (focus ((repeat constructor); done)); (first | exact GetN.cons rfl GetN.nil | (apply getN_ints_app; (first | omega | (simp; omega) | (simp; done))) | (apply getN_ints; (first | omega | (simp; omega) | (simp; done)))))); (apply od_mv; exact rfl; exact rfl; apply s_move; exact rfl); (apply od_mv; exact rfl; exact rfl; first | (apply s_indexK; exact rfl; exact rfl; exact el_81; exact sz_26; (first | exact rfl); omega) | (apply s_indexO; exact rfl; exact rfl; exact el_81; exact sz_26; (first | exact rfl); omega)); (apply od_mv; exact rfl; exact rfl; apply s_load1; exact rfl; exact rfl; (apply RdN.own; (focus ((repeat constructor); done)); (first | exact GetN.cons rfl GetN.nil | (apply getN_ints_app; (first | omega | (simp; omega) | (simp; done))) | (apply getN_ints; (first | omega | (simp; omega) | (simp; done)))))); (apply od_mv; exact rfl; exact rfl; apply s_and; exact rfl; exact rfl); (apply od_mv; exact rfl; exact rfl; apply s_move; exact rfl); (apply od_mv; exact rfl; exact rfl; first | (apply s_indexK; exact rfl; exact rfl; exact el_81; exact sz_26; (first | exact rfl); omega) | (apply s_indexO; exact rfl; exact rfl; exact el_81; exact sz_26; (first | exact rfl); omega)); (apply od_mv; exact rfl; exact rfl; apply s_load1; exact rfl; exact rfl; (apply RdN.own; (focus ((repeat constructor); done)); (first | exact GetN.cons rfl GetN.nil | (apply getN_ints_app; (first | omega | (simp; omega) | (simp; done))) | (apply getN_ints; (first | omega | (simp; omega) | (simp; done)))))); (apply od_mv; exact rfl; exact rfl; apply s_move; exact rfl); (apply od_mv; exact rfl; exact rfl; first | (apply s_indexK; exact rfl; exact rfl; exact el_81; exact sz_26; (first | exact rfl); omega) | (apply s_indexO; exact rfl; exact rfl; exact el_81; exact sz_26; (first | exact rfl); omega)); (apply od_mv; exact rfl; exact rfl; apply s_load1; exact rfl; exact rfl; (apply RdN.own; (focus ((repeat constructor); done)); (first | exact GetN.cons rfl GetN.nil | (apply getN_ints_app; (first | omega | (simp; omega) | (simp; done))) | (apply getN_ints; (first | omega | (simp; omega) | (simp; done)))))); (apply od_mv; exact rfl; exact rfl; apply s_and; exact rfl; exact rfl); (apply od_mv; exact rfl; exact rfl; apply s_xor; exact rfl; exact rfl); (apply od_mv; exact rfl; exact rfl; apply s_move; exact rfl); (apply od_mv; exact rfl; exact rfl; first | (apply s_indexK; exact rfl; exact rfl; exact el_81; exact sz_26; (first | exact rfl); omega) | (apply s_indexO; exact rfl; exact rfl; exact el_81; exact sz_26; (first | exact rfl); omega)); (apply od_mv; exact rfl; exact rfl; apply s_load1; exact rfl; exact rfl; (apply RdN.own; (focus ((repeat constructor); done)); (first | exact GetN.cons rfl GetN.nil | (apply getN_ints_app; (first | omega | (simp; omega) | (simp; done))) | (apply getN_ints; (first | omega | (simp; omega) | (simp; done)))))); (apply od_mv; exact rfl; exact rfl; apply s_move; exact rfl); (apply od_mv; exact rfl; exact rfl; first | (apply s_indexK; exact rfl; exact rfl; exact el_81; exact sz_26; (first | exact rfl); omega) | (apply s_indexO; exact rfl; exact rfl; exact el_81; exact sz_26; (first | exact rfl); omega)); (apply od_mv; exact rfl; exact rfl; apply s_load1; exact rfl; exact rfl; (apply RdN.own; (focus ((repeat constructor); done)); (first | exact GetN.cons rfl GetN.nil | (apply getN_ints_app; (first | omega | (simp; omega) | (simp; done))) | (apply getN_ints; (first | omega | (simp; omega) | (simp; done)))))); (apply od_mv; exact rfl; exact rfl; apply s_and; exact rfl; exact rfl); (apply od_mv; exact rfl; exact rfl; apply s_xor; exact rfl; exact rfl))
        | (refine cw_draw (id := 14) 28 (.mv 0 (.mv 1 (.mv 2 (.mv 3 (.mv 4 (.mv 5 (.mv 6 (.mv 7 (.mv 8 (.mv 9 (.mv 10 (.mv 11 (.mv 12 (.mv 13 (.mv 14 (.mv 15 (.mv 16 (.mv 17 (.mv 18 (.mv 19 (.mv 20 (.mv 21 (.mv 22 (.mv 23 (.mv 24 (.mv 25 (.fx 26 (.mv 27 (PT.nil))))))))))))))))))))))))))))) mixed (by kernel_rfl) ?_; (apply od_mv; exact rfl; exact rfl; apply s_move; exact rfl); (apply od_mv; exact rfl; exact rfl; apply s_move; exact rfl); (apply od_mv; exact rfl; exact rfl; apply s_addW; exact rfl; exact rfl); (apply od_mv; exact rfl; exact rfl; apply s_move; exact rfl); (apply od_mv; exact rfl; exact rfl; first | (apply s_indexK; exact rfl; exact rfl; exact el_81; exact sz_26; (first | exact rfl); omega) | (apply s_indexO; exact rfl; exact rfl; exact el_81; exact sz_26; (first | exact rfl); omega)); (apply od_mv; exact rfl; exact rfl; apply s_load1; exact rfl; exact rfl; (apply RdN.own; (focus ((repeat constructor); done)); (first | exact GetN.cons rfl GetN.nil | (apply getN_ints_app; (first | omega | (simp; omega) | (simp; done))) | (apply getN_ints; (first | omega | (simp; omega) | (simp; done)))))); (apply od_mv; exact rfl; exact rfl; apply s_move; exact rfl); (apply od_mv; exact rfl; exact rfl; first | (apply s_indexK; exact rfl; exact rfl; exact el_81; exact sz_26; (first | exact rfl); omega) | (apply s_indexO; exact rfl; exact rfl; exact el_81; exact sz_26; (first | exact rfl); omega)); (apply od_mv; exact rfl; exact rfl; apply s_load1; exact rfl; exact rfl; (apply RdN.own; (focus ((repeat constructor); done)); (first | exact GetN.cons rfl GetN.nil | (apply getN_ints_app; (first | omega | (simp; omega) | (simp; done))) | (apply getN_ints; (first | omega | (simp; omega) | (simp; done)))))); (apply od_mv; exact rfl; exact rfl; apply s_move; exact rfl); (apply od_mv; exact rfl; exact rfl; first | (apply s_indexK; exact rfl; exact rfl; exact el_81; exact sz_26; (first | exact rfl); omega) | (apply s_indexO; exact rfl; exact rfl; exact el_81; exact sz_26; (first | exact rfl); omega)); (apply od_mv; exact rfl; exact rfl; apply s_load1; exact rfl; exact rfl; (apply RdN.own; (focus ((repeat constructor); done)); (first | exact GetN.cons rfl GetN.nil | (apply getN_ints_app; (first | omega | (simp; omega) | (simp; done))) | (apply getN_ints; (first | omega | (simp; omega) | (simp; done)))))); (apply od_mv; exact rfl; exact rfl; apply s_move; exact rfl); (apply od_mv; exact rfl; exact rfl; first | (apply s_indexK; exact rfl; exact rfl; exact el_81; exact sz_26; (first | exact rfl); omega) | (apply s_indexO; exact rfl; exact rfl; exact el_81; exact sz_26; (first | exact rfl); omega)); (apply od_mv; exact rfl; exact rfl; apply s_load1; exact rfl; exact rfl; (apply RdN.own; (focus ((repeat constructor); done)); (first | exact GetN.cons rfl GetN.nil | (apply getN_ints_app; (first | omega | (simp; omega) | (simp; done))) | (apply getN_ints; (first | omega | (simp; omega) | (simp; done)))))); (apply od_mv; exact rfl; exact rfl; apply s_move; exact rfl); (apply od_mv; exact rfl; exact rfl; apply s_addW; exact rfl; exact rfl); (apply od_mv; exact rfl; exact rfl; apply s_move; exact rfl); (apply od_mv; exact rfl; exact rfl; first | (apply s_indexK; exact rfl; exact rfl; exact el_81; exact sz_26; (first | exact rfl); omega) | (apply s_indexO; exact rfl; exact rfl; exact el_81; exact sz_26; (first | exact rfl); omega)); (apply od_mv; exact rfl; exact rfl; apply s_load1; exact rfl; exact rfl; (apply RdN.own; (focus ((repeat constructor); done)); (first | exact GetN.cons rfl GetN.nil | (apply getN_ints_app; (first | omega | (simp; omega) | (simp; done))) | (apply getN_ints; (first | omega | (simp; omega) | (simp; done)))))); (apply od_mv; exact rfl; exact rfl; apply s_move; exact rfl); (apply od_mv; exact rfl; exact rfl; first | (apply s_indexK; exact rfl; exact rfl; exact el_81; exact sz_26; (first | exact rfl); omega) | (apply s_indexO; exact rfl; exact rfl; exact el_81; exact sz_26; (first | exact rfl); omega)); (apply od_mv; exact rfl; exact rfl; apply s_load1; exact rfl; exact rfl; (apply RdN.own; (focus ((repeat constructor); done)); (first | exact GetN.cons rfl GetN.nil | (apply getN_ints_app; (first | omega | (simp; omega) | (simp; done))) | (apply getN_ints; (first | omega | (simp; omega) | (simp; done)))))); (apply od_mv; exact rfl; exact rfl; apply s_move; exact rfl); (apply od_mv; exact rfl; exact rfl; first | (apply s_indexK; exact rfl; exact rfl; exact el_81; exact sz_26; (first | exact rfl); omega) | (apply s_indexO; exact rfl; exact rfl; exact el_81; exact sz_26; (first | exact rfl); omega)); (apply od_mv; exact rfl; exact rfl; apply s_load1; exact rfl; exact rfl; (apply RdN.own; (focus ((repeat constructor); done)); (first | exact GetN.cons rfl GetN.nil | (apply getN_ints_app; (first | omega | (simp; omega) | (simp; done))) | (apply getN_ints; (first | omega | (simp; omega) | (simp; done)))))); (apply od_fx; (first | exact Wk.refl _ _ | (focus (apply Wk.mk; (first | exact View.le.refl _ | assumption | exact View.le.trans (by assumption) (by assumption)); (repeat constructor); done))); (apply fx_val; exact rfl; exact rfl; apply s_buildSl; exact rfl; exact el_81; exact sz_26; exact zb_26; (focus ((repeat constructor); done)); exact rfl; exact rfl; (exact Nat.le_of_ble_eq_true rfl); (focus ((repeat constructor); done)); (focus ((repeat (first | exact rfl | constructor)); done)); intro bk147)); (apply od_mv; exact rfl; exact rfl; apply s_assign; exact rfl); (apply od_nil; (first | exact Wk.refl _ _ | (focus (apply Wk.mk; (first | exact View.le.refl _ | assumption | exact View.le.trans (by assumption) (by assumption)); (repeat constructor); done)))); (apply ol_nil))
        | (refine cw_region_id 11 ?_; (apply ol_mv; exact rfl; exact rfl); (apply ol_val; exact rfl; apply stp_pur; apply s_add64; exact rfl; exact rfl; omega); (apply ol_as; exact rfl; exact rfl); (apply ol_nil))
        | (refine cw_region_id 15 ?_; (apply ol_as; exact rfl; exact rfl); (apply ol_nil))
        | (apply cw_cond_true; exact rfl; (first | exact rfl | assumption))
        | (apply cw_cond_false; exact rfl; (first | exact rfl | assumption))
        | apply cw_skip
        | apply cw_ret
        | apply cw_block
        | apply cw_exit
      refine cw_loopK (σ := Nat) [2, 3, 4, 5, 6, 8] (by (repeat (first | exact Keep.nil | (apply Keep.cons; exact rfl)))) (fun k => [(12, .int .i64 k)]) (fun _ => M) (fun k => [⟨some bk15, flat (eK .u32) (addL S.l R.l k), 26⟩, ⟨some qv', flat (eK .u32) R.l ++ sv', 26⟩, ⟨some qp, flat (eK .u8) P ++ sp, 5⟩, ⟨some qk, flat (eK .u32) KK ++ sk, 26⟩, ⟨some bk2, flat (eK .u8) (List.replicate 32 0), 23⟩]) (fun k => k ≤ 8) (fun k => 8 - k) 0 (by (repeat (first | exact trivial | refine And.intro rfl ?_))) (View.le.refl _) (by rw [addL_zero]; (repeat (first | exact Pick.nil | (apply Pick.cons; (focus ((repeat (first | exact Spl.here | apply Spl.there)); done))) | exact Pick.refl | exact Pick.skip1 | exact Pick.skip2))) (by omega) ?_
      clear hk hk'
      intro k hk
      try dsimp only
      have hal := addL_length (A := S.l) (B := R.l) rfl rfl hk
      by_cases hk' : k < 8
      · have hst3 := addL_succ (A := S.l) (B := R.l) (i := k) rfl rfl hk'
        rw [← addL_get (A := S.l) (B := R.l) (i := k) rfl rfl hk'] at hst3
        have hRl : R.l.length = 8 := rfl
        generalize addL S.l R.l k = S2 at *
        generalize R.l = RL at *
        repeat' first
          | apply cw_seq
          | (refine cw_region_id 16 ?_; (apply ol_mv; exact rfl; exact rfl); (apply ol_val; exact rfl; apply stp_cmp; apply s_lss; exact rfl; exact rfl; all_goals (intro hc149; try (exfalso; (first | exact hc149 rfl | omega)))); all_goals (apply ol_nil))
          | (refine cw_draw (id := 18) 12 (.mv 0 (.mv 1 (.mv 2 (.mv 3 (.mv 4 (.mv 5 (.mv 6 (.mv 7 (.mv 8 (.mv 9 (.mv 10 (.mv 11 (PT.nil))))))))))))) mixed (by kernel_rfl) ?_; (apply od_mv; exact rfl; exact rfl; apply s_move; exact rfl); (apply od_mv; exact rfl; exact rfl; apply s_move; exact rfl); (apply od_mv; exact rfl; exact rfl; apply s_move; exact rfl); (apply od_mv; exact rfl; exact rfl; apply s_move; exact rfl); (apply od_mv; exact rfl; exact rfl; first | (apply s_indexK; exact rfl; exact rfl; exact el_81; exact sz_26; (first | exact rfl); omega) | (apply s_indexO; exact rfl; exact rfl; exact el_81; exact sz_26; (first | exact rfl); omega)); (apply od_mv; exact rfl; exact rfl; apply s_load1; exact rfl; exact rfl; (first | (apply RdN.own; (focus ((repeat constructor); done)); (first | exact GetN.cons rfl GetN.nil | (apply getN_ints_app; (first | omega | (simp; omega) | (simp; done))) | (apply getN_ints; (first | omega | (simp; omega) | (simp; done))))) | (apply RdN.own; (focus ((repeat constructor); done)); (apply getNK0; omega)) | (apply RdN.own; (focus ((repeat constructor); done)); (apply getNK; omega)))); (apply od_mv; exact rfl; exact rfl; apply s_move; exact rfl); (apply od_mv; exact rfl; exact rfl; apply s_move; exact rfl); (apply od_mv; exact rfl; exact rfl; first | (apply s_indexK; exact rfl; exact rfl; exact el_81; exact sz_26; (first | exact rfl); omega) | (apply s_indexO; exact rfl; exact rfl; exact el_81; exact sz_26; (first | exact rfl); omega)); (apply od_mv; exact rfl; exact rfl; apply s_load1; exact rfl; exact rfl; (first | (apply RdN.own; (focus ((repeat constructor); done)); (first | exact GetN.cons rfl GetN.nil | (apply getN_ints_app; (first | omega | (simp; omega) | (simp; done))) | (apply getN_ints; (first | omega | (simp; omega) | (simp; done))))) | (apply RdN.own; (focus ((repeat constructor); done)); (apply getNK0; omega)) | (apply RdN.own; (focus ((repeat constructor); done)); (apply getNK; omega)))); (apply od_mv; exact rfl; exact rfl; apply s_addW; exact rfl; exact rfl); (apply od_mv; exact rfl; exact rfl; first | (apply s_indexK; exact rfl; exact rfl; exact el_81; exact sz_26; (first | exact rfl); omega) | (apply s_indexO; exact rfl; exact rfl; exact el_81; exact sz_26; (first | exact rfl); omega)); (apply od_nil; (first | exact Wk.refl _ _ | (focus (apply Wk.mk; (first | exact View.le.refl _ | assumption | exact View.le.trans (by assumption) (by assumption)); (repeat constructor); done)))); (apply ol_eff; apply s_store1; exact rfl; exact rfl; exact sz_26; exact rfl; (focus ((repeat constructor); done)); (first | (focus ((repeat constructor); done)) | (apply setAt_ints_app; (first | omega | (simp; omega) | (simp; done))) | (apply setAt_ints; (first | omega | (simp; omega) | (simp; done))) | (apply setAtK0; omega) | (apply SetAt.set; (first | omega | (simp; omega) | (simp; done))))); (apply ol_nil))
          | (refine cw_region_id 17 ?_; (apply ol_mv; exact rfl; exact rfl); (apply ol_val; exact rfl; apply stp_pur; apply s_add64; exact rfl; exact rfl; omega); (apply ol_as; exact rfl; exact rfl); (apply ol_nil))
          | (refine cw_region_id 6 ?_; (apply ol_mv; exact rfl; exact rfl); (apply ol_val; exact rfl; apply stp_pur; apply s_add64; exact rfl; exact rfl; omega); (apply ol_as; exact rfl; exact rfl); (apply ol_nil))
          | (apply cw_cond_true; exact rfl; (first | exact rfl | assumption))
          | (apply cw_cond_false; exact rfl; (first | exact rfl | assumption))
          | apply cw_skip
          | apply cw_ret
          | apply cw_block
          | apply cw_exit
        refine ⟨k + 1, ⟨by (repeat (first | exact trivial | refine And.intro rfl ?_)), View.le.refl _, ?_, hk', by omega⟩⟩
        rw [hst3]
        (repeat (first | exact Pick.nil | (apply Pick.cons; (focus ((repeat (first | exact Spl.here | apply Spl.there)); done))) | exact Pick.refl | exact Pick.skip1 | exact Pick.skip2))
      · have : k = 8 := by omega
        subst this
        repeat' first
          | apply cw_seq
          | (refine cw_region_id 16 ?_; (apply ol_mv; exact rfl; exact rfl); (apply ol_val; exact rfl; apply stp_cmp; apply s_lss; exact rfl; exact rfl; all_goals (intro hc149; try (exfalso; (first | exact hc149 rfl | omega)))); all_goals (apply ol_nil))
          | (refine cw_draw (id := 18) 12 (.mv 0 (.mv 1 (.mv 2 (.mv 3 (.mv 4 (.mv 5 (.mv 6 (.mv 7 (.mv 8 (.mv 9 (.mv 10 (.mv 11 (PT.nil))))))))))))) mixed (by kernel_rfl) ?_; (apply od_mv; exact rfl; exact rfl; apply s_move; exact rfl); (apply od_mv; exact rfl; exact rfl; apply s_move; exact rfl); (apply od_mv; exact rfl; exact rfl; apply s_move; exact rfl); (apply od_mv; exact rfl; exact rfl; apply s_move; exact rfl); (apply od_mv; exact rfl; exact rfl; first | (apply s_indexK; exact rfl; exact rfl; exact el_81; exact sz_26; (first | exact rfl); omega) | (apply s_indexO; exact rfl; exact rfl; exact el_81; exact sz_26; (first | exact rfl); omega)); (apply od_mv; exact rfl; exact rfl; apply s_load1; exact rfl; exact rfl; (apply RdN.own; (focus ((repeat constructor); done)); (first | exact GetN.cons rfl GetN.nil | (apply getN_ints_app; (first | omega | (simp; omega) | (simp; done))) | (apply getN_ints; (first | omega | (simp; omega) | (simp; done)))))); (apply od_mv; exact rfl; exact rfl; apply s_move; exact rfl); (apply od_mv; exact rfl; exact rfl; apply s_move; exact rfl); (apply od_mv; exact rfl; exact rfl; first | (apply s_indexK; exact rfl; exact rfl; exact el_81; exact sz_26; (first | exact rfl); omega) | (apply s_indexO; exact rfl; exact rfl; exact el_81; exact sz_26; (first | exact rfl); omega)); (apply od_mv; exact rfl; exact rfl; apply s_load1; exact rfl; exact rfl; (apply RdN.own; (focus ((repeat constructor); done)); (first | exact GetN.cons rfl GetN.nil | (apply getN_ints_app; (first | omega | (simp; omega) | (simp; done))) | (apply getN_ints; (first | omega | (simp; omega) | (simp; done)))))); (apply od_mv; exact rfl; exact rfl; apply s_addW; exact rfl; exact rfl); (apply od_mv; exact rfl; exact rfl; first | (apply s_indexK; exact rfl; exact rfl; exact el_81; exact sz_26; (first | exact rfl); omega) | (apply s_indexO; exact rfl; exact rfl; exact el_81; exact sz_26; (first | exact rfl); omega)); (apply od_nil; (first | exact Wk.refl _ _ | (focus (apply Wk.mk; (first | exact View.le.refl _ | assumption | exact View.le.trans (by assumption) (by assumption)); (repeat constructor); done)))); (apply ol_eff; apply s_store1; exact rfl; exact rfl; exact sz_26; exact rfl; (focus ((repeat constructor); done)); (first | (focus ((repeat constructor); done)) | (apply setAt_ints_app; (first | omega | (simp; omega) | (simp; done))) | (apply setAt_ints; (first | omega | (simp; omega) | (simp; done))) | (apply SetAt.set; (first | omega | (simp; omega) | (simp; done))))); (apply ol_nil))
          | (refine cw_region_id 17 ?_; (apply ol_mv; exact rfl; exact rfl); (apply ol_val; exact rfl; apply stp_pur; apply s_add64; exact rfl; exact rfl; omega); (apply ol_as; exact rfl; exact rfl); (apply ol_nil))
          | (refine cw_region_id 6 ?_; (apply ol_mv; exact rfl; exact rfl); (apply ol_val; exact rfl; apply stp_pur; apply s_add64; exact rfl; exact rfl; omega); (apply ol_as; exact rfl; exact rfl); (apply ol_nil))
          | (apply cw_cond_true; exact rfl; (first | exact rfl | assumption))
          | (apply cw_cond_false; exact rfl; (first | exact rfl | assumption))
          | apply cw_skip
          | apply cw_ret
          | apply cw_block
          | apply cw_exit
        refine ⟨n + 1, ⟨by (repeat (first | exact trivial | refine And.intro rfl ?_)), View.le.refl _, ?_, by omega, by omega⟩⟩
        rw [hst0, ← addL_all]
        (repeat (first | exact Pick.nil | (apply Pick.cons; (focus ((repeat (first | exact Spl.here | apply Spl.there)); done))) | exact Pick.refl | exact Pick.skip1 | exact Pick.skip2))
  · have hnn : P.length / 64 = n := by omega
    rw [hnn]
    generalize blocks P n = S at *
    repeat' first
      | apply cw_seq
      | (refine cw_region_id 5 ?_; (apply ol_mv; exact rfl; exact rfl); (apply ol_mv; exact rfl; exact rfl); (apply ol_val; exact rfl; apply stp_pur; apply s_len; exact rfl; exact el_38); (apply ol_val; exact rfl; apply stp_cmp; apply s_lss; exact rfl; exact rfl; all_goals (intro hc22; try (exfalso; (first | exact hc22 rfl | omega)))); all_goals (apply ol_nil))
      | (refine cw_region_id 7 ?_; (apply ol_mv; exact rfl; exact rfl); (apply ol_mv; exact rfl; exact rfl); (apply ol_mv; exact rfl; exact rfl); (apply ol_val; exact rfl; apply stp_pur; apply s_add64; exact rfl; exact rfl; omega); (apply ol_val; exact rfl; apply stp_pur; apply s_slice; exact rfl; exact el_38; exact sz_5; exact Exists.intro _ rfl; exact Exists.intro _ rfl; exact rfl; (intro h; first | exact rfl | cases h); (first | omega | (simp; omega) | (simp; done)); (first | omega | (simp; omega) | (simp; done)); (first | omega | (simp; omega) | (simp; done))))
      | (refine cw_region_id 8 ?_; (apply ol_val; exact rfl; apply s_buildSl; exact rfl; exact el_81; exact sz_26; exact zb_26; (focus ((repeat constructor); done)); exact rfl; exact rfl; (exact Nat.le_of_ble_eq_true rfl); (focus ((repeat constructor); done)); (focus ((repeat (first | exact rfl | constructor)); done)); intro bk31); (apply ol_mv; exact rfl; exact rfl); (apply ol_val; exact rfl; first | (apply s_append_e; exact rfl; exact rfl; (focus ((repeat constructor); done)); exact el_81; exact sz_26; exact zb_26; exact rfl; exact by_26; (first | exact (fun _ => rfl)); (first | (apply RdN.own; (focus ((repeat constructor); done)); (focus ((repeat (first | exact rfl | constructor)); done)))); (first | exact rfl); (first | omega | (simp; omega) | (simp; done)); (first | omega | (simp; omega) | (simp; done)); intro rk33 sk33 ck33 ok33) | (apply s_append_r; exact rfl; exact rfl; (focus ((repeat constructor); done)); (first | exact rfl | exact (List.append_nil _).symm); exact el_81; exact sz_26; exact zb_26; exact rfl; exact by_26; (first | exact SO.nil _ | assumption | (exact ⟨by simp, by simp, Nat.le_refl _, by simp⟩)); (first | exact (fun _ => rfl)); (first | (apply RdN.own; (focus ((repeat constructor); done)); (focus ((repeat (first | exact rfl | constructor)); done)))); (first | exact rfl); (first | omega | (simp; omega) | (simp; done)); (first | omega | (simp; omega) | (simp; done)); intro rk33 sk33 ck33 ok33) | (apply s_append_b; exact rfl; exact rfl; (focus ((repeat constructor); done)); (first | exact rfl | exact (List.append_nil _).symm); exact el_81; exact sz_26; exact zb_26; exact rfl; exact by_26; (first | exact SO.nil _ | assumption | (exact ⟨by simp, by simp, Nat.le_refl _, by simp⟩)); (first | exact (fun _ => rfl)); (first | (apply RdN.own; (focus ((repeat constructor); done)); (focus ((repeat (first | exact rfl | constructor)); done)))); (first | exact rfl); (first | omega | (simp; omega) | (simp; done)); (first | omega | (simp; omega) | (simp; done)); intro rk33 sk33 ck33 ok33) | (apply s_append_n; exact rfl; exact rfl; (focus ((repeat constructor); done)); exact el_81; exact sz_26; exact zb_26; exact rfl; exact by_26; (first | exact (fun _ => rfl)); (first | (apply RdN.own; (focus ((repeat constructor); done)); (focus ((repeat (first | exact rfl | constructor)); done)))); (first | exact rfl); (first | omega | (simp; omega) | (simp; done)); (first | omega | (simp; omega) | (simp; done)); intro rk33 sk33 ck33 ok33)); (apply ol_as; exact rfl; exact rfl); (apply ol_nil))
      | (refine cw_region_id 9 ?_; (apply ol_as; exact rfl; exact rfl); (apply ol_nil))
      | (refine cw_region_id 19 ?_; (apply ol_val; exact rfl; apply s_allocK; exact zk_23; intro bk13); (apply ol_nil))
      | (refine cw_region_id 20 ?_; (apply ol_as; exact rfl; exact rfl); (apply ol_nil))
      | (apply cw_cond_true; exact rfl; (first | exact rfl | assumption))
      | (apply cw_cond_false; exact rfl; (first | exact rfl | assumption))
      | apply cw_skip
      | apply cw_ret
      | apply cw_block
      | apply cw_exit
    refine cw_loopK (σ := Nat) [2, 3, 13] (by (repeat (first | exact Keep.nil | (apply Keep.cons; exact rfl)))) (fun i => [(14, .int .i64 i)]) (fun _ => M) (fun i => [⟨some bk13, flat (eK .u8) (oA S i), 23⟩, ⟨some bk15, flat (eK .u32) S.l, 26⟩, ⟨some bk2, flat (eK .u8) (List.replicate 32 0), 23⟩]) (fun i => i ≤ 32) (fun i => 32 - i) 0 (by (repeat (first | exact trivial | refine And.intro rfl ?_))) (View.le.refl _) (by (repeat (first | exact Pick.nil | (apply Pick.cons; (focus ((repeat (first | exact Spl.here | apply Spl.there)); done))) | exact Pick.refl | exact Pick.skip1 | exact Pick.skip2))) (by omega) ?_
    intro i hi
    try dsimp only
    have hol := oA_length (S := S) hi
    by_cases hi' : i < 32
    · have hst := oA_step1 (S := S) hi'
      have hSl : S.l.length = 8 := rfl
      generalize oA S i = O at *
      generalize S.l = SL at *
      repeat' first
        | apply cw_seq
        | (refine cw_region_id 21 ?_; (apply ol_mv; exact rfl; exact rfl); (apply ol_val; exact rfl; apply stp_cmp; apply s_lss; exact rfl; exact rfl; all_goals (intro hc165; try (exfalso; (first | exact hc165 rfl | omega)))); all_goals (apply ol_nil))
        | (refine cw_region_id 23 ?_; (apply ol_mv; exact rfl; exact rfl); (apply ol_mv; exact rfl; exact rfl); (apply ol_mv; exact rfl; exact rfl); (apply ol_val; exact rfl; apply stp_pur; first | (apply s_quo64; exact rfl; exact rfl; omega) | (apply s_quoT; exact rfl; exact rfl; omega)); (apply ol_val; exact rfl; apply stp_pur; first | (apply s_indexK; exact rfl; exact rfl; exact el_81; exact sz_26; (first | exact rfl); omega) | (apply s_indexO; exact rfl; exact rfl; exact el_81; exact sz_26; (first | exact rfl); omega)); (apply ol_ld; exact rfl; exact rfl; exact rfl; (first | (apply RdN.own; (focus ((repeat constructor); done)); (first | exact GetN.cons rfl GetN.nil | (apply getN_ints_app; (first | omega | (simp; omega) | (simp; done))) | (apply getN_ints; (first | omega | (simp; omega) | (simp; done))))) | (apply RdN.own; (focus ((repeat constructor); done)); (apply getNK0; omega)))); (apply ol_mv; exact rfl; exact rfl); (apply ol_val; exact rfl; apply stp_pur; first | (apply s_rem64; exact rfl; exact rfl; omega) | (apply s_remT; exact rfl; exact rfl; omega)); (apply ol_val; exact rfl; apply stp_pur; apply s_mul64; exact rfl; exact rfl; omega); (apply ol_val; exact rfl; apply stp_pur; apply s_sub64; exact rfl; exact rfl; omega); (apply ol_val; exact rfl; apply stp_pur; apply s_shr; exact rfl; exact rfl; (first | decide | omega | (simp [IntKind.bits]; omega) | (simp [IntKind.bits]; done))); (apply ol_val; exact rfl; apply stp_pur; first | (apply s_conv; exact rfl; exact rfl; exact ti_5; (focus (apply wrap_u8; omega))) | (apply s_conv; exact rfl; exact rfl; exact ti_5; exact rfl)); (apply ol_val; exact rfl; apply stp_pur; first | (apply s_indexAK; exact rfl; exact rfl; exact ar_23; exact sz_5; omega) | (apply s_indexAO; exact rfl; exact rfl; exact ar_23; exact sz_5; omega)); (apply ol_eff; apply s_store1; exact rfl; exact rfl; exact sz_5; exact rfl; (focus ((repeat constructor); done)); (first | (focus ((repeat constructor); done)) | (apply setAt_ints_app; (first | omega | (simp; omega) | (simp; done))) | (apply setAt_ints; (first | omega | (simp; omega) | (simp; done))) | (apply setAtK0; omega) | (apply SetAt.set; (first | omega | (simp; omega) | (simp; done))))); (apply ol_nil))
        | (refine cw_region_id 22 ?_; (apply ol_mv; exact rfl; exact rfl); (apply ol_val; exact rfl; apply stp_pur; apply s_add64; exact rfl; exact rfl; omega); (apply ol_as; exact rfl; exact rfl); (apply ol_nil))
        | (refine cw_region_id 24 ?_; (apply ol_ldN; exact rfl; exact rfl; exact rfl; exact sz_23; (first | (apply RdN.own; (focus ((repeat constructor); done)); (apply getNK_all; (first | assumption | (rw [List.length_replicate])))) | (apply RdN.own; (focus ((repeat constructor); done)); (apply getNK0; omega)))); (apply ol_eff; apply s_storeK; exact rfl; exact rfl; exact sz_23; (focus ((repeat constructor); done)); (first | assumption | (rw [List.length_replicate])); (first | assumption | (rw [List.length_replicate]))); (apply ol_nil))
        | (apply cw_cond_true; exact rfl; (first | exact rfl | assumption))
        | (apply cw_cond_false; exact rfl; (first | exact rfl | assumption))
        | apply cw_skip
        | apply cw_ret
        | apply cw_block
        | apply cw_exit
      refine ⟨i + 1, ⟨by (repeat (first | exact trivial | refine And.intro rfl ?_)), View.le.refl _, ?_, hi', by omega⟩⟩
      rw [hst]
      (repeat (first | exact Pick.nil | (apply Pick.cons; (focus ((repeat (first | exact Spl.here | apply Spl.there)); done))) | exact Pick.refl | exact Pick.skip1 | exact Pick.skip2))
    · have : i = 32 := by omega
      subst this
      have e : oA S 32 = outB S := oA_all S
      rw [e] at hol ⊢
      clear e
      generalize outB S = O at *
      repeat' first
        | apply cw_seq
        | (refine cw_region_id 21 ?_; (apply ol_mv; exact rfl; exact rfl); (apply ol_val; exact rfl; apply stp_cmp; apply s_lss; exact rfl; exact rfl; all_goals (intro hc165; try (exfalso; (first | exact hc165 rfl | omega)))); all_goals (apply ol_nil))
        | (refine cw_region_id 23 ?_; (apply ol_mv; exact rfl; exact rfl); (apply ol_mv; exact rfl; exact rfl); (apply ol_mv; exact rfl; exact rfl); (apply ol_val; exact rfl; apply stp_pur; first | (apply s_quo64; exact rfl; exact rfl; omega) | (apply s_quoT; exact rfl; exact rfl; omega)); (apply ol_val; exact rfl; apply stp_pur; first | (apply s_indexK; exact rfl; exact rfl; exact el_81; exact sz_26; (first | exact rfl); omega) | (apply s_indexO; exact rfl; exact rfl; exact el_81; exact sz_26; (first | exact rfl); omega)); (apply ol_ld; exact rfl; exact rfl; exact rfl; (apply RdN.own; (focus ((repeat constructor); done)); (first | exact GetN.cons rfl GetN.nil | (apply getN_ints_app; (first | omega | (simp; omega) | (simp; done))) | (apply getN_ints; (first | omega | (simp; omega) | (simp; done)))))); (apply ol_mv; exact rfl; exact rfl); (apply ol_val; exact rfl; apply stp_pur; first | (apply s_rem64; exact rfl; exact rfl; omega) | (apply s_remT; exact rfl; exact rfl; omega)); (apply ol_val; exact rfl; apply stp_pur; apply s_mul64; exact rfl; exact rfl; omega); (apply ol_val; exact rfl; apply stp_pur; apply s_sub64; exact rfl; exact rfl; omega); (apply ol_val; exact rfl; apply stp_pur; apply s_shr; exact rfl; exact rfl; (first | decide | omega | (simp [IntKind.bits]; omega) | (simp [IntKind.bits]; done))); (apply ol_val; exact rfl; apply stp_pur; first | (apply s_conv; exact rfl; exact rfl; exact ti_5; (focus (apply wrap_u8; omega))) | (apply s_conv; exact rfl; exact rfl; exact ti_5; exact rfl)); (apply ol_val; exact rfl; apply stp_pur; first | (apply s_indexAK; exact rfl; exact rfl; exact ar_23; exact sz_5; omega) | (apply s_indexAO; exact rfl; exact rfl; exact ar_23; exact sz_5; omega)); (apply ol_eff; apply s_store1; exact rfl; exact rfl; exact sz_5; exact rfl; (focus ((repeat constructor); done)); (first | (focus ((repeat constructor); done)) | (apply setAt_ints_app; (first | omega | (simp; omega) | (simp; done))) | (apply setAt_ints; (first | omega | (simp; omega) | (simp; done))) | (apply SetAt.set; (first | omega | (simp; omega) | (simp; done))))); (apply ol_nil))
        | (refine cw_region_id 22 ?_; (apply ol_mv; exact rfl; exact rfl); (apply ol_val; exact rfl; apply stp_pur; apply s_add64; exact rfl; exact rfl; omega); (apply ol_as; exact rfl; exact rfl); (apply ol_nil))
        | (refine cw_region_id 24 ?_; (apply ol_ldN; exact rfl; exact rfl; exact rfl; exact sz_23; (apply RdN.own; (focus ((repeat constructor); done)); (apply getNK_all; (first | assumption | (rw [List.length_replicate]))))); (apply ol_eff; apply s_storeK; exact rfl; exact rfl; exact sz_23; (focus ((repeat constructor); done)); (first | assumption | (rw [List.length_replicate])); (first | assumption | (rw [List.length_replicate]))); (apply ol_nil))
        | (apply cw_cond_true; exact rfl; (first | exact rfl | assumption))
        | (apply cw_cond_false; exact rfl; (first | exact rfl | assumption))
        | apply cw_skip
        | apply cw_ret
        | apply cw_block
        | apply cw_exit
      refine ends [] (RVal.cellN rfl rfl rfl (RdN.own (by (repeat (first | exact Has.here | apply Has.there))) (getNK_all hol)) RVal.nil) Pick.nil ?_
      rfl
end Go.Proofs.YtkbbbflojebfgaaDoor
