/-
  The program logic, second part: lists of operations, regions of fixed order, one rule for each operation.
-/
import Derived.Test.YtkbbbflojebfgaaDoorFw1
import Derived.IntWalk
set_option linter.unusedSimpArgs false
set_option linter.unusedVariables false
namespace Go.Fw
open Go Go.RowKit

/-! ### One operation -/

/-- The operation comes to a value (calls: by their contract); it does not panic. -/
def Okay (P : Program) (o : Oper) (a : Act) (w : World) (K : Value → World → Prop) : Prop :=
  match (execOp a.eval o).run P w with
  | .ok (.value v) w' => K v w'
  | .ok .skip w' => K undef w'
  | .ok (.enter f args) w' => Calls P f args w' (fun e w'' => ∃ v, e = .returned v ∧ K v w'')
  | _ => False

theorem Okay.mono {P : Program} {o : Oper} {a : Act} {w : World} {K K' : Value → World → Prop} (h : Okay P o a w K) (hk : ∀ v w', K v w' → K' v w') : Okay P o a w K' := by
  unfold Okay at *
  generalize (execOp a.eval o).run P w = r at *
  cases r with
  | ok n w' =>
    cases n <;> simp only at h ⊢
    case value v => exact hk _ _ h
    case skip => exact hk _ _ h
    case enter f args => exact h.mono fun e w'' ⟨v, he, hv⟩ => ⟨v, he, hk _ _ hv⟩
  | halt x w' => exact h

theorem Okay.wp {P : Program} {o : Oper} {a : Act} {w : World} {K : Value → World → Prop} {K' : Act → World → Prop} {Q : Exit → Act → World → Prop} (h : Okay P o a w K) (hk : ∀ v w', K v w' → K' (a.put o.dst v) w') : o.wp P a w K' Q := by
  unfold Okay at h
  unfold Oper.wp
  generalize (execOp a.eval o).run P w = r at *
  cases r with
  | ok n w' =>
    cases n <;> simp only at h <;> simp only [Oper.upon]
    case value v => exact hk _ _ h
    case skip => exact hk _ _ h
    case enter f args => exact h.mono fun e w'' ⟨v, he, hv⟩ => by subst he; exact hk _ _ hv
  | halt x w' => exact h.elim

/-- The operations one after the other. -/
def lst (P : Program) (l0 : Array Oper) (K : Act → World → Prop) : List Oper → Act → World → Prop
  | [], a, w => K a w
  | o :: rest, a, w => if Region.wanted o (yielded l0 a.tmps) then Okay P o a w (fun v w' => lst P l0 K rest (a.put o.dst v) w') else lst P l0 K rest (a.put o.dst undef) w

theorem wpList_of_lst {P : Program} {l0 : Array Oper} {K : Act → World → Prop} {Q : Exit → Act → World → Prop} (hk : ∀ a w, K a w → Q .normal a w) :
    ∀ (l : List Oper) (a : Act) (w : World), lst P l0 K l a w → wpList P l0 Q l a w
  | [], a, w, h => hk _ _ h
  | o :: rest, a, w, h => by
    unfold lst at h
    unfold wpList
    split
    · rename_i hw
      rw [if_pos hw] at h
      exact .inl (h.wp fun v w' hv => wpList_of_lst hk rest _ _ hv)
    · rename_i hw
      rw [if_neg hw] at h
      exact wpList_of_lst hk rest _ _ h

def Stp (C : Pr) (o : Oper) (fm : FM) (M : View) (own : List OB) (K : Value → View → List OB → Prop) : Prop :=
  ∀ a w, FrOk C.n a fm → St C.wE C.mu M own w → Okay C.P o a w (fun v w' => ∃ M' own', St C.wE C.mu M' own' w' ∧ K v M' own')

def OL (C : Pr) (l0 : Array Oper) (l : List Oper) (fm : FM) (M : View) (own : List OB) (K : SP) : Prop :=
  ∀ a w, FrOk C.n a fm → St C.wE C.mu M own w → lst C.P l0 (real C K) l a w

section
variable {C : Pr} {l0 : Array Oper} {rest : List Oper} {fm : FM} {M : View} {own : List OB} {K : SP} {d : Nat} {op : Op} {ty : TypeId} {pos : String} {af : Array Edge}

theorem ol_nil (h : K fm M own) : OL C l0 [] fm M own K := fun _ _ hf hs => ⟨_, _, _, hf, hs, h⟩

theorem ol_val (hd : Nat.blt d C.n = true) (h : Stp C ⟨some d, op, ty, pos, af, none⟩ fm M own (fun v M' own' => OL C l0 rest ((d, v) :: fm) M' own' K)) :
    OL C l0 (⟨some d, op, ty, pos, af, none⟩ :: rest) fm M own K := by
  intro a w hf hs
  unfold lst
  rw [if_pos (by simp [Region.wanted])]
  refine (h a w hf hs).mono fun v w' hv => ?_
  obtain ⟨M', own', hs', hk⟩ := hv
  exact hk _ _ (hf.put hd v) hs'

theorem ol_eff (h : Stp C ⟨none, op, ty, pos, af, none⟩ fm M own (fun _ M' own' => OL C l0 rest fm M' own' K)) :
    OL C l0 (⟨none, op, ty, pos, af, none⟩ :: rest) fm M own K := by
  intro a w hf hs
  unfold lst
  rw [if_pos (by simp [Region.wanted])]
  refine (h a w hf hs).mono fun v w' hv => ?_
  obtain ⟨M', own', hs', hk⟩ := hv
  exact hk _ _ hf hs'

/-- The guard's temporary. -/
def gdst (l0 : Array Oper) (j : Nat) : Option Nat := (l0[j]?).bind (·.dst)

theorem yielded_of {n : Nat} {a : Act} {j s : Nat} {b : Bool} (hf : FrOk n a fm) (hj : gdst l0 j = some s) (hs : fm.get s = some (.bool b)) : yielded l0 a.tmps j = some b := by
  unfold gdst at hj
  unfold yielded
  rw [hj]
  simp [hf.get _ _ hs]

/-- A guard that was itself skipped answers neither way. -/
theorem yielded_undef {n : Nat} {a : Act} {j s : Nat} (hf : FrOk n a fm) (hj : gdst l0 j = some s) (hs : fm.get s = some undef) : yielded l0 a.tmps j = none := by
  unfold gdst at hj
  unfold yielded
  rw [hj]
  simp [hf.get _ _ hs, undef]

theorem ol_gskipu {j s : Nat} {want : Bool} (hj : gdst l0 j = some s) (hg : fm.get s = some undef)
    (hd : Nat.blt d C.n = true) (h : OL C l0 rest ((d, undef) :: fm) M own K) :
    OL C l0 (⟨some d, op, ty, pos, af, some (j, want)⟩ :: rest) fm M own K := by
  intro a w hf hs
  unfold lst
  rw [if_neg (by simp [Region.wanted, yielded_undef hf hj hg])]
  exact h _ _ (hf.put hd undef) hs

theorem ol_gval {j s : Nat} {want b : Bool} (hd : Nat.blt d C.n = true) (hj : gdst l0 j = some s) (hg : fm.get s = some (.bool b)) (hb : b = want)
    (h : Stp C ⟨some d, op, ty, pos, af, some (j, want)⟩ fm M own (fun v M' own' => OL C l0 rest ((d, v) :: fm) M' own' K)) :
    OL C l0 (⟨some d, op, ty, pos, af, some (j, want)⟩ :: rest) fm M own K := by
  intro a w hf hs
  unfold lst
  rw [if_pos (by simp [Region.wanted, yielded_of hf hj hg, hb])]
  refine (h a w hf hs).mono fun v w' hv => ?_
  obtain ⟨M', own', hs', hk⟩ := hv
  exact hk _ _ (hf.put hd v) hs'

theorem ol_geff {j s : Nat} {want b : Bool} (hj : gdst l0 j = some s) (hg : fm.get s = some (.bool b)) (hb : b = want)
    (h : Stp C ⟨none, op, ty, pos, af, some (j, want)⟩ fm M own (fun _ M' own' => OL C l0 rest fm M' own' K)) :
    OL C l0 (⟨none, op, ty, pos, af, some (j, want)⟩ :: rest) fm M own K := by
  intro a w hf hs
  unfold lst
  rw [if_pos (by simp [Region.wanted, yielded_of hf hj hg, hb])]
  refine (h a w hf hs).mono fun v w' hv => ?_
  obtain ⟨M', own', hs', hk⟩ := hv
  exact hk _ _ hf hs'

theorem ol_gskip {j s : Nat} {want b : Bool} (hj : gdst l0 j = some s) (hg : fm.get s = some (.bool b)) (hb : b = !want)
    (hd : Nat.blt d C.n = true) (h : OL C l0 rest ((d, undef) :: fm) M own K) :
    OL C l0 (⟨some d, op, ty, pos, af, some (j, want)⟩ :: rest) fm M own K := by
  intro a w hf hs
  unfold lst
  rw [if_neg (by subst hb; simp [Region.wanted, yielded_of hf hj hg])]
  exact h _ _ (hf.put hd undef) hs

theorem ol_gskipe {j s : Nat} {want b : Bool} (hj : gdst l0 j = some s) (hg : fm.get s = some (.bool b)) (hb : b = !want)
    (h : OL C l0 rest fm M own K) :
    OL C l0 (⟨none, op, ty, pos, af, some (j, want)⟩ :: rest) fm M own K := by
  intro a w hf hs
  unfold lst
  rw [if_neg (by subst hb; simp [Region.wanted, yielded_of hf hj hg])]
  exact h _ _ hf hs

/-- The guard is a Bool that is not known: both ways. -/
theorem ol_gsplit {j s : Nat} {want b : Bool} {dst : Option Nat} (_hj : gdst l0 j = some s) (_hg : fm.get s = some (.bool b))
    (h : ∀ _ : b = want, OL C l0 (⟨dst, op, ty, pos, af, some (j, want)⟩ :: rest) fm M own K) (h' : ∀ _ : b = !want, OL C l0 (⟨dst, op, ty, pos, af, some (j, want)⟩ :: rest) fm M own K) :
    OL C l0 (⟨dst, op, ty, pos, af, some (j, want)⟩ :: rest) fm M own K := by
  cases b <;> cases want <;> first | exact h rfl | exact h' rfl

theorem cw_region {id : Nat} {l : List Oper} {X : Nat → SP} {R : SP} (h : OL C l.toArray l fm M own K) : CW C (.region id l.toArray false) fm M own K X R :=
  fun a w hf hs => wp_region_lit (wpList_of_lst (fun _ _ h => h) _ _ _ (h a w hf hs))
end

/-! ### The rules of the operations -/

section
variable {C : Pr} {fm : FM} {M : View} {own : List OB} {K : Value → View → List OB → Prop} {d : Option Nat} {ty : TypeId} {pos : String} {af : Array Edge} {g : Option (Nat × Bool)}

/-- It leaves the world as it is, and comes to v. -/
def Pur (C : Pr) (o : Oper) (fm : FM) (M : View) (own : List OB) (v : Value) : Prop :=
  ∀ a w, FrOk C.n a fm → St C.wE C.mu M own w → (execOp a.eval o).run C.P w = .ok (.value v) w

/-- A test: true where p holds, else false. -/
structure Cmp (C : Pr) (o : Oper) (fm : FM) (M : View) (own : List OB) (p : Prop) : Prop where
  yes : p → Pur C o fm M own (.bool true)
  no : ¬ p → Pur C o fm M own (.bool false)

theorem stp_pur {o : Oper} {v : Value} (h : Pur C o fm M own v) (k : K v M own) : Stp C o fm M own K := by
  intro a w hf hs
  unfold Okay
  rw [h a w hf hs]
  exact ⟨M, own, hs, k⟩

theorem stp_cmp {o : Oper} {p : Prop} (h : Cmp C o fm M own p) (k1 : ∀ _ : p, K (.bool true) M own) (k2 : ∀ _ : ¬ p, K (.bool false) M own) : Stp C o fm M own K := by
  by_cases hp : p
  · exact stp_pur (h.yes hp) (k1 hp)
  · exact stp_pur (h.no hp) (k2 hp)

theorem s_move {x : Operand} {v : Value} (hx : ev fm x = some v) : Pur C ⟨d, .move x, ty, pos, af, g⟩ fm M own v :=
  fun a w hf _ => ( by simp [execOp, hf.eval hx])
theorem s_assign {x : Operand} {v : Value} (hx : ev fm x = some v) : Pur C ⟨d, .assign x, ty, pos, af, g⟩ fm M own v :=
  fun a w hf _ => ( by simp [execOp, hf.eval hx])
theorem s_pick_t {c x y : Operand} {b : Bool} {v : Value} (hc : ev fm c = some (.bool b)) (hb : b = true) (hx : ev fm x = some v) : Pur C ⟨d, .pick c x y, ty, pos, af, g⟩ fm M own v :=
  fun a w hf _ => ( by subst hb; simp [execOp, hf.eval hc, hf.eval hx, asBool])
theorem s_pick_f {c x y : Operand} {b : Bool} {v : Value} (hc : ev fm c = some (.bool b)) (hb : b = false) (hx : ev fm y = some v) : Pur C ⟨d, .pick c x y, ty, pos, af, g⟩ fm M own v :=
  fun a w hf _ => ( by subst hb; simp [execOp, hf.eval hc, hf.eval hx, asBool])
/-! #### comparisons of integers -/
section
variable {t t' : TypeId} {x y : Operand} {k1 : IntKind} {m n : Int}
theorem s_cmp {op : BinOp} {r : Bool} (hx : ev fm x = some (.int k1 m)) (hy : ev fm y = some (.int k1 n)) (hr : binOp op t (.int k1 m) (.int k1 n) = pure (.bool r)) : Pur C ⟨d, .binOp op t x y t', ty, pos, af, g⟩ fm M own (.bool r) :=
  fun a w hf _ => ( by simp [execOp, hf.eval hx, hf.eval hy, hr, eqGuard_at_int])
theorem s_lss (hx : ev fm x = some (.int k1 m)) (hy : ev fm y = some (.int k1 n)) : Cmp C ⟨d, .binOp .lss t x y t', ty, pos, af, g⟩ fm M own (m < n) :=
  ⟨fun h => s_cmp hx hy (by rw [binOp_lss]; simp only [h, decide_true]), fun h => s_cmp hx hy (by rw [binOp_lss]; simp only [h, decide_false])⟩
theorem s_leq (hx : ev fm x = some (.int k1 m)) (hy : ev fm y = some (.int k1 n)) : Cmp C ⟨d, .binOp .leq t x y t', ty, pos, af, g⟩ fm M own (m ≤ n) :=
  ⟨fun h => s_cmp hx hy (by rw [binOp_leq]; simp only [h, decide_true]), fun h => s_cmp hx hy (by rw [binOp_leq]; simp only [h, decide_false])⟩
theorem s_gtr (hx : ev fm x = some (.int k1 m)) (hy : ev fm y = some (.int k1 n)) : Cmp C ⟨d, .binOp .gtr t x y t', ty, pos, af, g⟩ fm M own (n < m) :=
  ⟨fun h => s_cmp hx hy (by rw [binOp_gtr, decide_eq_true (show m > n from h)]), fun h => s_cmp hx hy (by rw [binOp_gtr, decide_eq_false (show ¬ m > n from h)])⟩
theorem s_geq (hx : ev fm x = some (.int k1 m)) (hy : ev fm y = some (.int k1 n)) : Cmp C ⟨d, .binOp .geq t x y t', ty, pos, af, g⟩ fm M own (n ≤ m) :=
  ⟨fun h => s_cmp hx hy (by rw [binOp_geq, decide_eq_true (show m ≥ n from h)]), fun h => s_cmp hx hy (by rw [binOp_geq, decide_eq_false (show ¬ m ≥ n from h)])⟩
theorem s_eql (hx : ev fm x = some (.int k1 m)) (hy : ev fm y = some (.int k1 n)) : Cmp C ⟨d, .binOp .eql t x y t', ty, pos, af, g⟩ fm M own (m = n) :=
  ⟨fun h => s_cmp hx hy (by rw [binOp_eql, show (m == n) = true from by simpa using h]), fun h => s_cmp hx hy (by rw [binOp_eql, show (m == n) = false from by simpa using h])⟩
theorem s_neq (hx : ev fm x = some (.int k1 m)) (hy : ev fm y = some (.int k1 n)) : Cmp C ⟨d, .binOp .neq t x y t', ty, pos, af, g⟩ fm M own (¬ m = n) :=
  ⟨fun h => s_cmp hx hy (by rw [binOp_neq, show (m != n) = true from by simpa using h]), fun h => s_cmp hx hy (by rw [binOp_neq, show (m != n) = false from by simpa using Decidable.not_not.1 h])⟩
end

/-! #### arithmetic -/
section
variable {t t' : TypeId} {x y : Operand} {k1 : IntKind} {m n : Int}
theorem s_arith {op : BinOp} {k1 k2 k3 : IntKind} {r : Int} (hx : ev fm x = some (.int k1 m)) (hy : ev fm y = some (.int k2 n)) (hr : binOp op t (.int k1 m) (.int k2 n) = pure (.int k3 r)) : Pur C ⟨d, .binOp op t x y t', ty, pos, af, g⟩ fm M own (.int k3 r) :=
  fun a w hf _ => ( by simp [execOp, hf.eval hx, hf.eval hy, hr, eqGuard_at_int])
theorem s_add64 (hx : ev fm x = some (.int .i64 m)) (hy : ev fm y = some (.int .i64 n)) (h : -9223372036854775808 ≤ m + n ∧ m + n ≤ 9223372036854775807) : Pur C ⟨d, .binOp .add t x y t', ty, pos, af, g⟩ fm M own (.int .i64 (m + n)) :=
  s_arith hx hy (by rw [binOp_add, Op.intArith, IntWalk.i64_in _ h])
theorem s_sub64 (hx : ev fm x = some (.int .i64 m)) (hy : ev fm y = some (.int .i64 n)) (h : -9223372036854775808 ≤ m - n ∧ m - n ≤ 9223372036854775807) : Pur C ⟨d, .binOp .sub t x y t', ty, pos, af, g⟩ fm M own (.int .i64 (m - n)) :=
  s_arith hx hy (by rw [binOp_sub, Op.intArith, IntWalk.i64_in _ h])
theorem s_mul64 (hx : ev fm x = some (.int .i64 m)) (hy : ev fm y = some (.int .i64 n)) (h : -9223372036854775808 ≤ m * n ∧ m * n ≤ 9223372036854775807) : Pur C ⟨d, .binOp .mul t x y t', ty, pos, af, g⟩ fm M own (.int .i64 (m * n)) :=
  s_arith hx hy (by rw [binOp_mul, Op.intArith, IntWalk.i64_in _ h])
theorem s_addW (hx : ev fm x = some (.int k1 m)) (hy : ev fm y = some (.int k1 n)) : Pur C ⟨d, .binOp .add t x y t', ty, pos, af, g⟩ fm M own (.int k1 (k1.wrap (m + n))) :=
  s_arith hx hy (by rw [binOp_add, Op.intArith])
theorem s_subW (hx : ev fm x = some (.int k1 m)) (hy : ev fm y = some (.int k1 n)) : Pur C ⟨d, .binOp .sub t x y t', ty, pos, af, g⟩ fm M own (.int k1 (k1.wrap (m - n))) :=
  s_arith hx hy (by rw [binOp_sub, Op.intArith])
theorem s_mulW (hx : ev fm x = some (.int k1 m)) (hy : ev fm y = some (.int k1 n)) : Pur C ⟨d, .binOp .mul t x y t', ty, pos, af, g⟩ fm M own (.int k1 (k1.wrap (m * n))) :=
  s_arith hx hy (by rw [binOp_mul, Op.intArith])
theorem s_quo64 (hx : ev fm x = some (.int .i64 m)) (hy : ev fm y = some (.int .i64 n)) (h : 0 ≤ m ∧ m ≤ 9223372036854775807 ∧ 1 ≤ n) : Pur C ⟨d, .binOp .quo t x y t', ty, pos, af, g⟩ fm M own (.int .i64 (m / n)) :=
  s_arith hx hy (by rw [binOp_quo, Op.intDiv, if_neg (by omega), IntWalk.i64_quo _ _ h])
theorem s_rem64 (hx : ev fm x = some (.int k1 m)) (hy : ev fm y = some (.int k1 n)) (h : 0 ≤ m ∧ 1 ≤ n) : Pur C ⟨d, .binOp .rem t x y t', ty, pos, af, g⟩ fm M own (.int k1 (m % n)) :=
  s_arith hx hy (by rw [binOp_rem, Op.intDiv, if_neg (by omega), Int.tmod_eq_emod_of_nonneg h.1])
theorem s_bits {op : BinOp} {r : Int} (hx : ev fm x = some (.int k1 m)) (hy : ev fm y = some (.int k1 n)) (hr : binOp op t (.int k1 m) (.int k1 n) = pure (.int k1 r)) : Pur C ⟨d, .binOp op t x y t', ty, pos, af, g⟩ fm M own (.int k1 r) := s_arith hx hy hr
theorem s_and (hx : ev fm x = some (.int k1 m)) (hy : ev fm y = some (.int k1 n)) : Pur C ⟨d, .binOp .and t x y t', ty, pos, af, g⟩ fm M own (.int k1 (bits .and k1 m n)) :=
  s_arith hx hy (by rw [binOp_and, intBits_and])
theorem s_or (hx : ev fm x = some (.int k1 m)) (hy : ev fm y = some (.int k1 n)) : Pur C ⟨d, .binOp .or t x y t', ty, pos, af, g⟩ fm M own (.int k1 (bits .or k1 m n)) :=
  s_arith hx hy (by rw [binOp_or, intBits_or])
theorem s_xor (hx : ev fm x = some (.int k1 m)) (hy : ev fm y = some (.int k1 n)) : Pur C ⟨d, .binOp .xor t x y t', ty, pos, af, g⟩ fm M own (.int k1 (bits .xor k1 m n)) :=
  s_arith hx hy (by rw [binOp_xor, intBits_xor])
theorem s_shr {yk : IntKind} (hx : ev fm x = some (.int k1 m)) (hy : ev fm y = some (.int yk n)) (h : 0 ≤ n ∧ n ≤ k1.bits) : Pur C ⟨d, .binOp .shr t x y t', ty, pos, af, g⟩ fm M own (.int k1 (m / 2 ^ n.toNat)) :=
  s_arith hx hy (by rw [binOp_shr, shift_shr _ _ _ _ h.1 h.2])
theorem s_shlW {yk : IntKind} (hx : ev fm x = some (.int k1 m)) (hy : ev fm y = some (.int yk n)) (h : 0 ≤ n ∧ n ≤ k1.bits) : Pur C ⟨d, .binOp .shl t x y t', ty, pos, af, g⟩ fm M own (.int k1 (k1.wrap (m * 2 ^ n.toNat))) :=
  s_arith hx hy (by rw [binOp_shl, shift_shl _ _ _ _ h.1 h.2])
theorem s_shl64 {yk : IntKind} (hx : ev fm x = some (.int .i64 m)) (hy : ev fm y = some (.int yk n)) (h : 0 ≤ n ∧ n ≤ 64) (hb : -9223372036854775808 ≤ m * 2 ^ n.toNat ∧ m * 2 ^ n.toNat ≤ 9223372036854775807) : Pur C ⟨d, .binOp .shl t x y t', ty, pos, af, g⟩ fm M own (.int .i64 (m * 2 ^ n.toNat)) :=
  s_arith hx hy (by rw [binOp_shl, shift_shl _ _ _ _ h.1 (by simpa [IntKind.bits] using h.2), IntWalk.i64_in _ hb])
theorem s_neg64 (hx : ev fm x = some (.int .i64 m)) (h : -9223372036854775807 ≤ m ∧ m ≤ 9223372036854775807) : Pur C ⟨d, .unOp .neg t x, ty, pos, af, g⟩ fm M own (.int .i64 (-m)) :=
  fun a w hf _ => ( by simp only [execOp, hf.eval hx, Op.unary, Op.intArith]; rw [IntWalk.i64_in _ (by omega), Int.zero_sub]; rfl)
theorem s_not {b : Bool} (hx : ev fm x = some (.bool b)) : Pur C ⟨d, .unOp .not t x, ty, pos, af, g⟩ fm M own (.bool (!b)) :=
  fun a w hf _ => ( by simp [execOp, hf.eval hx, Op.unary])
theorem s_not_t {b : Bool} (hx : ev fm x = some (.bool b)) (hb : b = true) : Pur C ⟨d, .unOp .not t x, ty, pos, af, g⟩ fm M own (.bool false) := by subst hb; exact s_not hx
theorem s_not_f {b : Bool} (hx : ev fm x = some (.bool b)) (hb : b = false) : Pur C ⟨d, .unOp .not t x, ty, pos, af, g⟩ fm M own (.bool true) := by subst hb; exact s_not hx

def tdInt (P : Program) (t : TypeId) : Option IntKind := match P.underlying t with | some (.int k) => some k | _ => none
theorem tdInt_eq {P : Program} {t : TypeId} {k : IntKind} (h : tdInt P t = some k) : P.underlying t = some (.int k) := by
  unfold tdInt at h; split at h
  · rename_i e; injection h with h; subst h; exact e
  · cases h
theorem s_conv {src dst : TypeId} {k2 : IntKind} {r : Int} (hx : ev fm x = some (.int k1 m)) (hs : (C.P.underlying src).isSome = true) (hd : tdInt C.P dst = some k2) (hr : k2.wrap m = r) : Pur C ⟨d, .convert src dst x, ty, pos, af, g⟩ fm M own (.int k2 r) :=
  fun a w hf _ => ( by
    have e := tdInt_eq hd
    have hk : C.P.intKind dst = k2 := by simp [Program.intKind, e]
    have := run_convert_int (P := C.P) w src dst k1 m hs (by rw [hk]; exact e)
    rw [hk, hr] at this
    simp [execOp, hf.eval hx, this])
end

/-! #### strings -/
theorem s_len_string {x : Operand} {t : TypeId} {s : ByteArray} {ts : Array TypeId} (hts : ts = #[t]) (hx : ev fm x = some (.string s)) (ht : C.P.underlying t = some .string) : Pur C ⟨d, .call { callee := .builtin .len, args := #[x], argTypes := ts }, ty, pos, af, g⟩ fm M own (.int .i64 s.size) :=
  fun a w hf _ => ( by subst hts; simp [execOp, resolve, invoke, builtin, hf.eval hx, Builtin.len_, run_underlying ht, goInt])

/-! #### slices' lengths -/
def tdSlice (P : Program) (t : TypeId) : Option TypeId := match P.underlying t with | some (.slice e) => some e | _ => none
theorem tdSlice_eq {P : Program} {t e : TypeId} (h : tdSlice P t = some e) : P.underlying t = some (.slice e) := by
  unfold tdSlice at h; split at h
  · rename_i e; injection h with h; subst h; exact e
  · cases h
theorem s_len {x : Operand} {t e : TypeId} {a : Option Addr} {n c : Nat} (hx : ev fm x = some (.slice a n c)) (ht : tdSlice C.P t = some e) : Pur C ⟨d, .call { callee := .builtin .len, args := #[x], argTypes := #[t] }, ty, pos, af, g⟩ fm M own (.int .i64 n) :=
  fun a w hf _ => ( by simp [execOp, resolve, invoke, builtin, hf.eval hx, Builtin.len_, run_underlying (tdSlice_eq ht), goInt])

/-! #### types -/
def sizeB (P : Program) (t : TypeId) : Option Nat := (P.info? t).map (·.size)
def zeroB (P : Program) (t : TypeId) : Option Value := (P.info? t).bind (·.zero)
def aggB (P : Program) (t : TypeId) : Option Bool := match P.underlying t with
  | some (.struct _) => some true
  | some (.array _ _) => some true
  | some _ => some false
  | none => none
theorem run_sizeOf {P : Program} {t : TypeId} {n : Nat} (h : sizeB P t = some n) (w : World) : (sizeOf t).run P w = .ok n w := by
  unfold sizeB at h
  cases e : P.info? t with
  | none => rw [e] at h; cases h
  | some i => rw [e] at h; injection h with h; subst h; simp [sizeOf, typeInfo, e]
theorem run_zeroValue {P : Program} {t : TypeId} {z : Value} (h : zeroB P t = some z) (w : World) : (zeroValue t).run P w = .ok z w := by
  unfold zeroB at h
  cases e : P.info? t with
  | none => rw [e] at h; cases h
  | some i => rw [e] at h; simp at h; simp [zeroValue, typeInfo, e, h]
theorem run_isAgg {P : Program} {t : TypeId} {b : Bool} (h : aggB P t = some b) (w : World) : (isAgg t).run P w = .ok b w := by
  unfold aggB at h
  split at h <;> rename_i e
  · injection h with h; subst h; simp [isAgg, run_underlying e]
  · injection h with h; subst h; simp [isAgg, run_underlying e]
  · rename_i u h1 h2
    injection h with h; subst h
    cases u <;> simp_all [isAgg, run_underlying e]
  · cases h

/-! #### addresses -/
def fieldB (P : Program) (s i : Nat) : Option Nat := match P.underlying s with
  | some (.struct fs) => match fs[i]? with
    | some f => match P.info? f.type with
      | some inf => match inf.size with
        | 0 => none
        | _ + 1 => some f.offset
      | none => none
    | none => none
  | _ => none
theorem run_fieldAt {P : Program} {s i off : Nat} (h : fieldB P s i = some off) (b o : Nat) (w : World) : (Instr.fieldAt s (.pointer (some ⟨b, o, none⟩)) i).run P w = .ok (.pointer (some ⟨b, o + off, none⟩)) w := by
  unfold fieldB at h
  split at h
  · rename_i fs e1
    split at h
    · rename_i f e2
      split at h
      · rename_i inf e3
        split at h
        · cases h
        · rename_i n e4
          injection h with h
          subst h
          simp [Instr.fieldAt, run_underlying e1, e2, Instr.sureAddr, fieldPlace, sizeOf, typeInfo, e3, e4, Addr.add_lit]
      · cases h
    · cases h
  · cases h

theorem s_fieldAddr {s i off b o : Nat} {x : Operand} (hx : ev fm x = some (.pointer (some ⟨b, o, none⟩))) (h : fieldB C.P s i = some off) : Pur C ⟨d, .fieldAddr s x i, ty, pos, af, g⟩ fm M own (.pointer (some ⟨b, o + off, none⟩)) :=
  fun a w hf _ => ( by simp [execOp, hf.eval hx, run_fieldAt h])
/-- (the same, the offset reckoned) -/
theorem s_fieldAddr' {s i off b o r : Nat} {x : Operand} (hx : ev fm x = some (.pointer (some ⟨b, o, none⟩))) (h : fieldB C.P s i = some off) (hr : o + off = r) : Pur C ⟨d, .fieldAddr s x i, ty, pos, af, g⟩ fm M own (.pointer (some ⟨b, r, none⟩)) := by
  subst hr; exact s_fieldAddr hx h

theorem s_indexAddr {t e sz b o n c r : Nat} {x y : Operand} {ik : IntKind} {i : Int} (hx : ev fm x = some (.slice (some ⟨b, o, none⟩) n c)) (hy : ev fm y = some (.int ik i)) (ht : tdSlice C.P t = some e) (hs : sizeB C.P e = some sz) (hi : 0 ≤ i ∧ i < n) (hr : o + i.toNat * sz = r)
    : Pur C ⟨d, .indexAddr t x y, ty, pos, af, g⟩ fm M own (.pointer (some ⟨b, r, none⟩)) :=
  fun a w hf _ => ( by
    simp [execOp, hf.eval hx, hf.eval hy, Instr.indexAt, asIntOf, run_underlying (tdSlice_eq ht), run_sizeOf hs, hi, Addr.add_lit, hr])

def tdArray (P : Program) (t : TypeId) : Option (Nat × TypeId) := match P.underlying t with | some (.array n e) => some (n, e) | _ => none
theorem tdArray_eq {P : Program} {t n e : TypeId} (h : tdArray P t = some (n, e)) : P.underlying t = some (.array n e) := by
  unfold tdArray at h; split at h
  · rename_i e; injection h with h; injection h with h1 h2; subst h1; subst h2; exact e
  · cases h
theorem s_indexAddrA {t e sz b o n r : Nat} {x y : Operand} {ik : IntKind} {i : Int} (hx : ev fm x = some (.pointer (some ⟨b, o, none⟩))) (hy : ev fm y = some (.int ik i)) (ht : tdArray C.P t = some (n, e)) (hs : sizeB C.P e = some sz) (hi : 0 ≤ i ∧ i < n) (hr : o + i.toNat * sz = r)
    : Pur C ⟨d, .indexAddr t x y, ty, pos, af, g⟩ fm M own (.pointer (some ⟨b, r, none⟩)) :=
  fun a w hf _ => ( by
    simp [execOp, hf.eval hx, hf.eval hy, Instr.indexAt, asIntOf, run_underlying (tdArray_eq ht), run_sizeOf hs, hi, Addr.add_lit, hr, Instr.sureAddr])

/-! #### reading -/
inductive Has : List OB → OB → Prop
  | here {x : OB} {l : List OB} : Has (x :: l) x
  | there {z x : OB} {l : List OB} : Has l x → Has (z :: l) x
theorem Has.mem {l : List OB} {x : OB} (h : Has l x) : x ∈ l := by
  induction h with
  | here => exact List.mem_cons_self
  | there _ ih => exact List.mem_cons_of_mem _ ih

/-- n cells from 'off' on. -/
inductive GetN (f : Nat → Option Value) : Nat → Nat → List Value → Prop
  | nil {off : Nat} : GetN f off 0 []
  | cons {off n : Nat} {v : Value} {vs : List Value} : f off = some v → GetN f (off + 1) n vs → GetN f off (n + 1) (v :: vs)

theorem GetN.length {f : Nat → Option Value} {off n : Nat} {vs : List Value} (h : GetN f off n vs) : vs.length = n := by
  induction h with
  | nil => rfl
  | cons _ _ ih => simp [ih]
theorem GetN.at {f : Nat → Option Value} {off n : Nat} {vs : List Value} (h : GetN f off n vs) : ∀ j, j < n → f (off + j) = some (vs.getD j undef) := by
  induction h with
  | nil => intro j hj; omega
  | cons h1 _ ih =>
    intro j hj
    cases j with
    | zero => simpa using h1
    | succ j => have := ih j (by omega); simpa [Nat.add_assoc, Nat.add_comm 1 j] using this
theorem GetN.mono {f f' : Nat → Option Value} {off n : Nat} {vs : List Value} (h : GetN f off n vs) (hf : ∀ i v, f i = some v → f' i = some v) : GetN f' off n vs := by
  induction h with
  | nil => exact .nil
  | cons h1 _ ih => exact .cons (hf _ _ h1) ih
theorem GetN.of_at {f : Nat → Option Value} {vs : List Value} : ∀ {off : Nat}, (∀ j (h : j < vs.length), f (off + j) = some vs[j]) → GetN f off vs.length vs := by
  induction vs with
  | nil => intro off _; exact .nil
  | cons v vs ih =>
    intro off h
    refine .cons (by have := h 0 (by simp); simpa only [Nat.add_zero, List.getElem_cons_zero] using this) (ih fun j hj => ?_)
    have := h (j + 1) (by simpa using hj)
    simpa [Nat.add_assoc, Nat.add_comm 1 j] using this

/-- Cells that can be read: in a block of ours, or in the view. -/
inductive RdN (M : View) (own : List OB) (b off n : Nat) (vs : List Value) : Prop
  | own {cs : List Value} {T : TypeId} : Has own ⟨some b, cs, T⟩ → GetN (cs[·]?) off n vs → RdN M own b off n vs
  | view : GetN (M.cell b) off n vs → RdN M own b off n vs

theorem St.cell {wE : World} {mu : List Nat} {w : World} (hs : St wE mu M own w) {b off n : Nat} {vs : List Value} (h : RdN M own b off n vs) : GetN (fun i => w.cell? ⟨b, i, none⟩) off n vs := by
  cases h with
  | own hh hg =>
    obtain ⟨fz, _, this⟩ := OB.ok_some (hs.cells _ hh.mem)
    refine hg.mono fun i v hv => ?_
    simp only [World.cell?]
    rw [this]
    simpa using hv
  | view hg =>
    refine hg.mono fun i v hv => ?_
    have := hs.le.cell hv
    unfold View.cell View.of at this
    unfold World.cell?
    simp only
    cases e : w.heap[b]? with
    | none => rw [e] at this; cases this
    | some o => rw [e] at this; cases o <;> first | exact this | cases this

theorem run_load1 {wE : World} {mu : List Nat} {w : World} (hs : St wE mu M own w) {t b off : Nat} {v : Value} (ht : aggB C.P t = some false) (h : RdN M own b off 1 [v]) : (Instr.loadAt t (.pointer (some ⟨b, off, none⟩))).run C.P w = .ok v w := by
  have h1 := hs.cell h
  cases h1 with
  | cons h2 _ => simp [Instr.loadAt, Instr.sureAddr, loadVar, run_isAgg ht, h2]

theorem run_loadN {wE : World} {mu : List Nat} {w : World} (hs : St wE mu M own w) {t b off n : Nat} {vs : List Value} (ht : aggB C.P t = some true) (hn : sizeB C.P t = some n) (h : RdN M own b off n vs) : (Instr.loadAt t (.pointer (some ⟨b, off, none⟩))).run C.P w = .ok (.agg vs.toArray) w := by
  have h1 := hs.cell h
  have hl := run_loadCells (P := C.P) w ⟨b, off, none⟩ n (fun j => vs.getD j undef) (fun j hj => by rw [Addr.add_lit]; exact h1.at j hj)
  have e : (List.range n).map (fun j => vs.getD j undef) = vs := by
    apply List.ext_getElem
    · simp [h1.length]
    · intro i h1 h2; simp [List.getD, List.getElem?_eq_getElem h2]
  rw [e] at hl
  simp [Instr.loadAt, Instr.sureAddr, loadVar, run_isAgg ht, run_sizeOf hn, hl]

theorem s_load1 {x : Operand} {t b off : Nat} {v : Value} (hx : ev fm x = some (.pointer (some ⟨b, off, none⟩))) (ht : aggB C.P t = some false) (h : RdN M own b off 1 [v]) : Pur C ⟨d, .load t x, ty, pos, af, g⟩ fm M own v :=
  fun a w hf hs => ( by simp [execOp, hf.eval hx, run_load1 hs ht h])
theorem s_loadN {x : Operand} {t b off n : Nat} {vs : List Value} (hx : ev fm x = some (.pointer (some ⟨b, off, none⟩))) (ht : aggB C.P t = some true) (hn : sizeB C.P t = some n) (h : RdN M own b off n vs) : Pur C ⟨d, .load t x, ty, pos, af, g⟩ fm M own (.agg vs.toArray) :=
  fun a w hf hs => ( by simp [execOp, hf.eval hx, run_loadN hs ht hn h])

/-! #### new blocks -/
theorem stp_new {o : Oper} {cs : List Value} {T : TypeId} {v : Nat → Value} (h : ∀ a w, FrOk C.n a fm → St C.wE C.mu M own w → (execOp a.eval o).run C.P w = .ok (.value (v w.heap.size)) { w with heap := w.heap.push (.cells cs.toArray T) })
    (k : ∀ b, K (v b) M (⟨some b, cs, T⟩ :: own)) : Stp C o fm M own K := by
  intro a w hf hs
  unfold Okay
  rw [h a w hf hs]
  exact ⟨M, _, hs.newBlock cs T rfl rfl rfl rfl, k _⟩

/-- A list written out, cell by cell. -/
inductive LEq : List Value → List Value → Prop
  | nil : LEq [] []
  | cons {v : Value} {l l' : List Value} : LEq l l' → LEq (v :: l) (v :: l')
theorem LEq.eq {l l' : List Value} (h : LEq l l') : l = l' := by
  induction h with
  | nil => rfl
  | cons _ ih => rw [ih]

theorem s_alloc {t : TypeId} {z : Value} {cs : List Value} (hz : zeroB C.P t = some z) (hc : LEq z.cells.toList cs) (k : ∀ b, K (.pointer (some ⟨b, 0, none⟩)) M (⟨some b, cs, t⟩ :: own)) : Stp C ⟨d, .alloc t, ty, pos, af, g⟩ fm M own K :=
  stp_new (v := fun b => .pointer (some ⟨b, 0, none⟩)) (fun a w _ _ => by
    have := hc.eq
    subst this
    simp [execOp, Instr.alloc, run_zeroValue hz, newVar, newRow, -World.alloc_eq]) k

theorem s_box1 {x : Operand} {t : TypeId} {v : Value} (hx : ev fm x = some v) (hv : v.oneCell' = true) (k : ∀ b, K (.pointer (some ⟨b, 0, none⟩)) M (⟨some b, [v], t⟩ :: own)) : Stp C ⟨d, .box t x, ty, pos, af, g⟩ fm M own K :=
  stp_new (v := fun b => .pointer (some ⟨b, 0, none⟩)) (fun a w hf _ => by
    have : v.cells = #[v] := by cases v <;> first | rfl | (simp [Value.oneCell'] at hv)
    simp [execOp, Instr.box, hf.eval hx, newVar, newRow, this, -World.alloc_eq]) k
theorem s_boxN {x : Operand} {t : TypeId} {vs : List Value} (hx : ev fm x = some (.agg vs.toArray)) (k : ∀ b, K (.pointer (some ⟨b, 0, none⟩)) M (⟨some b, vs, t⟩ :: own)) : Stp C ⟨d, .box t x, ty, pos, af, g⟩ fm M own K :=
  stp_new (v := fun b => .pointer (some ⟨b, 0, none⟩)) (fun a w hf _ => by
    simp [execOp, Instr.box, hf.eval hx, newVar, newRow, Value.cells, -World.alloc_eq]) k

/-! #### writing -/
inductive SetAt : List Value → Nat → Value → List Value → Prop
  | zero {u v : Value} {l : List Value} : SetAt (u :: l) 0 v (v :: l)
  | succ {u v : Value} {n : Nat} {l l' : List Value} : SetAt l n v l' → SetAt (u :: l) (n + 1) v (u :: l')
  | set {v : Value} {n : Nat} {l : List Value} : n < l.length → SetAt l n v (l.set n v)
theorem SetAt.spec {l l' : List Value} {n : Nat} {v : Value} (h : SetAt l n v l') : n < l.length ∧ l' = l.set n v := by
  induction h with
  | zero => simp
  | succ _ ih => simp [ih.1, ih.2]
  | set h => exact ⟨h, rfl⟩

inductive SetN : List Value → Nat → List Value → List Value → Prop
  | nil {l : List Value} {n : Nat} : SetN l n [] l
  | cons {l l' l'' : List Value} {n : Nat} {v : Value} {vs : List Value} : SetAt l n v l' → SetN l' (n + 1) vs l'' → SetN l n (v :: vs) l''

theorem St.store1 {wE : World} {mu : List Nat} {w : World} {own' : List OB} (hs : St wE mu M own w) {b off : Nat} {cs cs' : List Value} {T : TypeId} {v : Value} (hr : Repl own ⟨some b, cs, T⟩ ⟨some b, cs', T⟩ own') (hc : SetAt cs off v cs') (hv : v.oneCell' = true) :
    ∃ w', (store ⟨b, off, none⟩ v).run C.P w = .ok () w' ∧ St wE mu M own' w' := by
  obtain ⟨h1, rfl⟩ := hc.spec
  obtain ⟨fz, hfz, hb⟩ := OB.ok_some (hs.cells _ hr.mem)
  have hcell : w.cell? ⟨b, off, none⟩ = some cs[off] := by
    simp only [World.cell?, hb]; simp [h1]
  have hfz' : w.frozen? ⟨b, off, none⟩ = false := by
    obtain ⟨lo, hi⟩ := fz
    simp only [World.frozen?, hb]
    unfold fzOk at hfz
    simp only at hfz
    rcases hfz with h | h
    · simp; omega
    · simp only [Prod.mk.injEq] at h; obtain ⟨rfl, rfl⟩ := h; simp
  refine ⟨w.setCell ⟨b, off, none⟩ v, ?_, ?_⟩
  · rw [run_store _ _ _ _ _ hv, hcell]; simp [hfz']
  · refine hs.write hr ?_ (fun k hk => ?_) (by simp) rfl rfl rfl
    · exact OB.ok_mk (fz := fz) (by simp [World.setCell, Array.getElem?_modify, hb]) (by simpa using hfz)
    · simp [World.setCell, Array.getElem?_modify, Ne.symm hk]

theorem Repl.mk : ∀ (p : List OB) {q : List OB} {x y : OB}, Repl (p ++ x :: q) x y (p ++ y :: q)
  | [], _, _, _ => .here
  | _ :: p, _, _, _ => .there (Repl.mk p)

theorem St.storeN {wE : World} {mu : List Nat} {b : Nat} {T : TypeId} {p q : List OB} : ∀ {vs cs cs' : List Value} {off i : Nat} {w : World}, St wE mu M (p ++ ⟨some b, cs, T⟩ :: q) w → SetN cs (off + i) vs cs' → (∀ v ∈ vs, v.oneCell' = true) →
    ∃ w', (storeCells ⟨b, off, none⟩ vs i).run C.P w = .ok () w' ∧ St wE mu M (p ++ ⟨some b, cs', T⟩ :: q) w'
  | [], cs, cs', off, i, w, hs, hc, _ => by
    cases hc
    exact ⟨w, by simp [storeCells], hs⟩
  | v :: vs, cs, cs', off, i, w, hs, hc, hv => by
    cases hc with
    | cons h1 h2 =>
      obtain ⟨w1, e1, s1⟩ := hs.store1 (C := C) (Repl.mk p) h1 (hv v (by simp))
      obtain ⟨w2, e2, s2⟩ := St.storeN (i := i + 1) s1 h2 (fun u hu => hv u (by simp [hu]))
      refine ⟨w2, ?_, s2⟩
      simp [storeCells, Addr.add_lit, e1, e2]

def ones : List Value → Bool
  | [] => true
  | v :: r => match v.oneCell' with | true => ones r | false => false
theorem ones_spec {l : List Value} (h : ones l = true) : ∀ v ∈ l, v.oneCell' = true := by
  induction l with
  | nil => intro v hv; cases hv
  | cons u l ih =>
    unfold ones at h
    split at h
    · rename_i hu
      intro v hv
      rcases List.mem_cons.1 hv with rfl | hv
      · exact hu
      · exact ih h v hv
    · cases h

theorem s_store1 {t : TypeId} {x y : Operand} {b off : Nat} {v : Value} {cs cs' : List Value} {T : TypeId} {own' : List OB} (hx : ev fm x = some (.pointer (some ⟨b, off, none⟩))) (hy : ev fm y = some v) (ht : sizeB C.P t = some 1) (hv : v.oneCell' = true)
    (hr : Repl own ⟨some b, cs, T⟩ ⟨some b, cs', T⟩ own') (hc : SetAt cs off v cs') (k : K undef M own') : Stp C ⟨d, .store t x y, ty, pos, af, g⟩ fm M own K := by
  intro a w hf hs
  obtain ⟨w', e, hs'⟩ := hs.store1 (C := C) hr hc hv
  have hcell : v.cells = #[v] := by cases v <;> first | rfl | (simp [Value.oneCell'] at hv)
  have hrun : (execOp a.eval ⟨d, .store t x y, ty, pos, af, g⟩).run C.P w = .ok .skip w' := by
    simp [execOp, hf.eval hx, hf.eval hy, Instr.storeAt, Instr.sureAddr, storeVar, run_sizeOf ht, hcell, storeCells, Addr.add_lit, e]
  unfold Okay
  rw [hrun]
  exact ⟨M, own', hs', k⟩

theorem s_storeN {t : TypeId} {x y : Operand} {b off n : Nat} {vs : List Value} {cs cs' : List Value} {T : TypeId} {own' : List OB} (hx : ev fm x = some (.pointer (some ⟨b, off, none⟩))) (hy : ev fm y = some (.agg vs.toArray)) (ht : sizeB C.P t = some n) (hn : vs.length = n) (hv : ones vs = true)
    (hr : Repl own ⟨some b, cs, T⟩ ⟨some b, cs', T⟩ own') (hc : SetN cs off vs cs') (k : K undef M own') : Stp C ⟨d, .store t x y, ty, pos, af, g⟩ fm M own K := by
  intro a w hf hs
  obtain ⟨p, q, rfl, rfl⟩ := hr.split
  obtain ⟨w', e, hs'⟩ := St.storeN (C := C) (off := off) (i := 0) hs (by simpa using hc) (ones_spec hv)
  have hrun : (execOp a.eval ⟨d, .store t x y, ty, pos, af, g⟩).run C.P w = .ok .skip w' := by
    simp [execOp, hf.eval hx, hf.eval hy, Instr.storeAt, Instr.sureAddr, storeVar, run_sizeOf ht, Value.cells, hn, e]
  unfold Okay
  rw [hrun]
  exact ⟨M, _, hs', k⟩

/-! #### tuples, structs by value -/
def nthV : List Value → Nat → Option Value
  | [], _ => none
  | v :: _, 0 => some v
  | _ :: r, n + 1 => nthV r n
theorem nthV_eq : ∀ (l : List Value) (i : Nat), nthV l i = l[i]?
  | [], i => by simp [nthV]
  | v :: r, 0 => by simp [nthV]
  | v :: r, i + 1 => by simp [nthV, nthV_eq r i]
theorem s_extract {x : Operand} {vs : List Value} {i : Nat} {v : Value} (hx : ev fm x = some (.tuple vs.toArray)) (hi : nthV vs i = some v) : Pur C ⟨d, .extract x i, ty, pos, af, g⟩ fm M own v :=
  fun a w hf _ => (by rw [nthV_eq] at hi; simp [execOp, hf.eval hx, Instr.extract, hi])

def evP (fm : FM) : List (Nat × Operand) → Option (List (Nat × Value))
  | [] => some []
  | (i, x) :: r => match ev fm x, evP fm r with
    | some v, some vs => some ((i, v) :: vs)
    | _, _ => none
theorem evP_eq {n : Nat} {a : Act} (hf : FrOk n a fm) : ∀ {l : List (Nat × Operand)} {vs : List (Nat × Value)}, evP fm l = some vs → l.map (fun p => (p.1, a.eval p.2)) = vs
  | [], vs, h => by simp [evP] at h; exact h.symm
  | (i, x) :: r, vs, h => by
    unfold evP at h
    split at h
    · rename_i v vs' h1 h2
      injection h with h
      subst h
      simp [hf.eval h1, evP_eq hf h2]
    · cases h

theorem s_build {t : TypeId} {ps : List (Nat × Operand)} {vs : List (Nat × Value)} {a0 : Array Value} {cs : List Value} (hp : evP fm ps = some vs) (hb : ∀ w, (Instr.build t vs.toArray).run C.P w = .ok (.agg a0) w) (hc : LEq a0.toList cs) : Pur C ⟨d, .build t ps.toArray, ty, pos, af, g⟩ fm M own (.agg cs.toArray) :=
  fun a w hf _ => ( by
    have e := hc.eq
    have ea : cs.toArray = a0 := by rw [← e]
    have := evP_eq hf hp
    simp only [execOp, Sem.run_bind, List.map_toArray, this, hb w, Result.andThen_ok, ea]
    rfl)
theorem s_buildSlice {t e : TypeId} {n : Nat} {ps : List (Nat × Operand)} {vs : List (Nat × Value)} {a0 : Array Value} {cs : List Value} (hp : evP fm ps = some vs)
    (hb : ∀ w, (Instr.buildSlice t n vs.toArray).run C.P w = .ok (.slice (some ⟨w.heap.size, 0, none⟩) n n) { w with heap := w.heap.push (.cells a0 e) }) (hc : LEq a0.toList cs)
    (k : ∀ b, K (.slice (some ⟨b, 0, none⟩) n n) M (⟨some b, cs, e⟩ :: own)) : Stp C ⟨d, .buildSlice t n ps.toArray, ty, pos, af, g⟩ fm M own K :=
  stp_new (v := fun b => .slice (some ⟨b, 0, none⟩) n n) (fun a w hf _ => by
    have e := hc.eq
    have ea : cs.toArray = a0 := by rw [← e]
    have := evP_eq hf hp
    simp only [execOp, Sem.run_bind, List.map_toArray, this, hb w, Result.andThen_ok, ea]
    rfl) k

theorem s_field {t : TypeId} {x : Operand} {vs : List Value} {i : Nat} {v : Value} (hx : ev fm x = some (.agg vs.toArray)) (hv : ∀ w, (Instr.field t (.agg vs.toArray) i).run C.P w = .ok v w) : Pur C ⟨d, .field t x i, ty, pos, af, g⟩ fm M own v :=
  fun a w hf _ => ( by simp only [execOp, hf.eval hx, Sem.run_bind, hv w, Result.andThen_ok]; rfl)

/-! #### make -/
theorem map_range_const {α : Type} (z : α) (n : Nat) : (List.range n).map (fun _ => z) = List.replicate n z := by
  induction n with
  | zero => rfl
  | succ n ih => rw [List.range_succ, List.map_append, ih, List.replicate_succ']; rfl

/-- make([]T, n, c), T of one cell. -/
theorem s_make1 {t e : TypeId} {i : TypeInfo} {x y : Operand} {k1 k2 : IntKind} {n c : Nat} {z : Value} (hx : ev fm x = some (.int k1 n)) (hy : ev fm y = some (.int k2 c)) (ht : tdSlice C.P t = some e) (hi : C.P.info? e = some i) (hs : i.size = 1) (hz : i.zero = some z) (hz1 : z.oneCell' = true)
    (hn : n ≤ c) (hc : i.bytes * c ≤ 281474976710656) (hc' : c ≤ 9223372036854775807) (k : ∀ b, K (.slice (some ⟨b, 0, none⟩) n c) M (⟨some b, List.replicate c z, e⟩ :: own)) : Stp C ⟨d, .makeSlice t x y, ty, pos, af, g⟩ fm M own K :=
  stp_new (v := fun b => .slice (some ⟨b, 0, none⟩) n c) (fun a w hf _ => by
    have e1 : z.cells = #[z] := by cases z <;> first | rfl | (simp [Value.oneCell'] at hz1)
    have w1 : IntKind.i64.wrap (n : Int) = n := IntWalk.i64_in _ (by omega)
    have w2 : IntKind.i64.wrap (c : Int) = c := IntWalk.i64_in _ (by omega)
    have nb : ¬ ((i.bytes : Int) * (c : Int) > 2 ^ 48) := by
      have : (i.bytes : Int) * (c : Int) = ((i.bytes * c : Nat) : Int) := by simp
      rw [this]; omega
    have hrun : (Instr.makeSlice t (.int k1 n) (.int k2 c)).run C.P w = .ok (.slice (some ⟨w.heap.size, 0, none⟩) n c) { w with heap := w.heap.push (.cells (List.replicate c z).toArray e) } := by
      have hti : ∀ w : World, (typeInfo e).run C.P w = .ok i w := fun w => by simp [typeInfo, hi]
      have hsz : ∀ w : World, (sizeOf e).run C.P w = .ok 1 w := fun w => by simp [sizeOf, hti, hs]
      have hzv : ∀ w : World, (zeroValue e).run C.P w = .ok z w := fun w => by simp [zeroValue, hti, hz]
      have h0 : ¬ ((decide ((c : Int) < 0) || decide ((i.bytes : Int) * (c : Int) > 2 ^ 48)) = true) := by
        simp only [Bool.or_eq_true, decide_eq_true_eq, not_or]; exact ⟨by omega, nb⟩
      have h0' : (decide ((c : Int) < 0) || decide ((i.bytes : Int) * (c : Int) > 2 ^ 48)) = false := by simpa using h0
      have hA : decide ((n : Int) < 0) = false := by simp
      have hB : decide ((n : Int) > (c : Int)) = false := by simp; omega
      simp only [Instr.makeSlice, Sem.run_bind, run_underlying (tdSlice_eq ht), Result.andThen_ok, asInt, asIntOf, Sem.run_pure, hti, w1, w2, h0', hA, hB, Bool.or_false, Bool.false_eq_true, if_false, run_askRoom, hsz, Nat.mul_one, Int.toNat_natCast]
      have hcells : (Array.range c).map (fun x => (#[z] : Array Value)[x % 1]!) = (List.replicate c z).toArray := by
        apply Array.ext'
        rw [Array.toList_map, Array.toList_range, ← map_range_const]
        apply List.map_congr_left
        intro j _
        simp [Nat.mod_one]
      by_cases hc0 : c = 0
      · subst hc0
        have hnil : Array.map (fun x => (#[] : Array Value)[x % (#[] : Array Value).size]!) (Array.range 0) = (List.replicate 0 z).toArray := by simp
        simp only [if_true, Sem.run_pure, Result.andThen_ok, newRow, Sem.run_bind, run_newObj, hnil]
      · simp only [hc0, if_false, Sem.run_pure, Result.andThen_ok, newRow, Sem.run_bind, run_newObj, hzv, e1]
        rw [show (#[z] : Array Value).size = 1 from rfl, hcells]
    simp [execOp, hf.eval hx, hf.eval hy, hrun, -World.alloc_eq]) k
end
end Go.Fw
