/-
  The hash function in plain words. No program in sight.
-/
import Derived.Test.YtelidojkpbaofaaDoorFw12
namespace Go.Proofs.YtelidojkpbaofaaDoor
set_option maxRecDepth 20000
set_option linter.unusedSimpArgs false
set_option linter.unusedVariables false
open Go Go.Fw

abbrev wr (x : Int) : Int := IntKind.u32.wrap x
abbrev X3 (a b : Int) : Int := Go.bits .xor .u32 a b
abbrev N3 (a b : Int) : Int := Go.bits .and .u32 a b
def rot (x : Int) (n : Nat) : Int := Go.bits .or .u32 (x / 2 ^ n) (wr (x * 2 ^ (32 - n)))
def sg0 (x : Int) : Int := X3 (X3 (rot x 7) (rot x 18)) (x / 2 ^ 3)
def sg1 (x : Int) : Int := X3 (X3 (rot x 17) (rot x 19)) (x / 2 ^ 10)
def nextW (w : List Int) : Int := wr (wr (wr (w.getD (w.length - 16) 0 + sg0 (w.getD (w.length - 15) 0)) + w.getD (w.length - 7) 0) + sg1 (w.getD (w.length - 2) 0))
def sched (ws : List Int) : Nat → List Int
  | 0 => ws
  | n + 1 => sched ws n ++ [nextW (sched ws n)]
/-- The first m bytes of a word. -/
def wordN (p : List Int) (i : Nat) : Nat → Int
  | 0 => 0
  | m + 1 => wr (wr (wordN p i m * 256) + p.getD (4 * i + m) 0)
def words (p : List Int) : Nat → List Int
  | 0 => []
  | n + 1 => words p n ++ [wordN p n 4]
theorem words_length (p : List Int) (n : Nat) : (words p n).length = n := by
  induction n with
  | zero => rfl
  | succ n ih => simp [words, ih]
theorem sched_length (ws : List Int) (n : Nat) : (sched ws n).length = ws.length + n := by
  induction n with
  | zero => rfl
  | succ n ih => simp [sched, ih]; omega

structure H8 where
  a : Int
  b : Int
  c : Int
  d : Int
  e : Int
  f : Int
  g : Int
  h : Int
def H8.l (s : H8) : List Int := [s.a, s.b, s.c, s.d, s.e, s.f, s.g, s.h]
def rx (s : H8) (k w : Int) : Int :=
  wr (wr (wr (wr (s.h + X3 (X3 (rot s.e 6) (rot s.e 11)) (rot s.e 25)) + X3 (N3 s.e s.f) (N3 (X3 4294967295 s.e) s.g)) + k) + w)
def ry (s : H8) : Int :=
  wr (X3 (X3 (rot s.a 2) (rot s.a 13)) (rot s.a 22) + X3 (X3 (N3 s.a s.b) (N3 s.a s.c)) (N3 s.b s.c))
def round (s : H8) (k w : Int) : H8 := ⟨wr (rx s k w + ry s), s.a, s.b, s.c, wr (s.d + rx s k w), s.e, s.f, s.g⟩
def KK : List Int := [1116352408, 1899447441, 3049323471, 3921009573, 961987163, 1508970993, 2453635748, 2870763221, 3624381080, 310598401, 607225278, 1426881987, 1925078388, 2162078206, 2614888103, 3248222580, 3835390401, 4022224774, 264347078, 604807628, 770255983, 1249150122, 1555081692, 1996064986, 2554220882, 2821834349, 2952996808, 3210313671, 3336571891, 3584528711, 113926993, 338241895, 666307205, 773529912, 1294757372, 1396182291, 1695183700, 1986661051, 2177026350, 2456956037, 2730485921, 2820302411, 3259730800, 3345764771, 3516065817, 3600352804, 4094571909, 275423344, 430227734, 506948616, 659060556, 883997877, 958139571, 1322822218, 1537002063, 1747873779, 1955562222, 2024104815, 2227730452, 2361852424, 2428436474, 2756734187, 3204031479, 3329325298]
def rounds (s : H8) (w : List Int) : Nat → H8
  | 0 => s
  | n + 1 => round (rounds s w n) (KK.getD n 0) (w.getD n 0)
def add8 (s t : H8) : H8 := ⟨wr (s.a + t.a), wr (s.b + t.b), wr (s.c + t.c), wr (s.d + t.d), wr (s.e + t.e), wr (s.f + t.f), wr (s.g + t.g), wr (s.h + t.h)⟩
def block (s : H8) (p : List Int) : H8 := add8 s (rounds s (sched (words p 16) 48) 64)
def start : H8 := ⟨1779033703, 3144134277, 1013904242, 2773480762, 1359893119, 2600822924, 528734635, 1541459225⟩
def blocks (p : List Int) : Nat → H8
  | 0 => start
  | n + 1 => block (blocks p n) ((p.drop (64 * n)).take 64)
/-- A number in 8 bytes. -/
def beN (n : Int) (k : Nat) : List Int := (List.range k).map fun i => IntKind.u8.wrap (n / 2 ^ (56 - 8 * i))
def be8 (n : Int) : List Int := beN n 8
theorem beN_length (n : Int) (k : Nat) : (beN n k).length = k := by simp [beN]
theorem be8_length (n : Int) : (be8 n).length = 8 := beN_length n 8
theorem beN_succ (n : Int) (k : Nat) : beN n (k + 1) = beN n k ++ [IntKind.u8.wrap (n / 2 ^ (56 - 8 * k))] := by simp [beN, List.range_succ]
/-- A row that is filled from the front. -/
theorem set_fill {A : List Int} {m i : Nat} (h : A.length = i) (hm : 0 < m) (v : Int) : (A ++ List.replicate m 0).set i v = (A ++ [v]) ++ List.replicate (m - 1) 0 := by
  subst h
  rw [List.set_append_right _ _ (Nat.le_refl _), Nat.sub_self]
  cases m with
  | zero => omega
  | succ m => simp [List.replicate_succ]
def zer (n : Nat) : Nat := (119 - n % 64) % 64
def pad (p : List Int) : List Int := p ++ [128] ++ List.replicate (zer p.length) 0 ++ be8 (8 * (p.length : Int))
def outN (s : H8) (m : Nat) : List Int := (List.range m).map fun i => IntKind.u8.wrap (s.l.getD (i / 4) 0 / 2 ^ (24 - 8 * (i % 4)))
theorem outN_length (s : H8) (m : Nat) : (outN s m).length = m := by simp [outN]
theorem outN_succ (s : H8) (m : Nat) : outN s (m + 1) = outN s m ++ [IntKind.u8.wrap (s.l.getD (m / 4) 0 / 2 ^ (24 - 8 * (m % 4)))] := by simp [outN, List.range_succ]
def outB (s : H8) : List Int := outN s 32
def sha (p : List Int) : List Int := outB (blocks (pad p) ((pad p).length / 64))
theorem sha_length (p : List Int) : (sha p).length = 32 := outN_length _ _
theorem pad_length (p : List Int) : (pad p).length % 64 = 0 ∧ (pad p).length = p.length + 9 + zer p.length := by
  have h : (pad p).length = p.length + 9 + zer p.length := by simp [pad, be8_length]; omega
  refine ⟨?_, h⟩
  rw [h]; unfold zer; omega

end Go.Proofs.YtelidojkpbaofaaDoor
