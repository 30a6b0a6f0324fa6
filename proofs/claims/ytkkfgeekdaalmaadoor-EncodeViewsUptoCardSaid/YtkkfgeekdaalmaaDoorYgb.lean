/-
  Texts joined: Fw2 Fw3 Fw4.
-/
import Derived.Test.YtkkfgeekdaalmaaDoorYga
import Derived.IntWalk
set_option linter.unusedSimpArgs false
set_option linter.unusedVariables false
namespace Go.Fw
open Go Go.RowKit
/-- The operation comes to a value (calls: by their contract); it does not panic. -/
def Okay (P : Program) (o : Oper) (a : Act) (w : World) (K : Value → World → Prop) : Prop :=
  match (execOp a.eval o).run P w with
  | .ok (.value v) w' => K v w'
  | .ok .skip w' => K undef w'
  | .ok (.enter f args) w' => Calls P f args w' (fun e w'' => ∃ v, e = .returned v ∧ K v w'')
  | _ => False
theorem Okay.mono {P : Program} {o : Oper} {a : Act} {w : World} {K K' : Value → World → Prop} (h : Okay P o a w K) (hk : ∀ v w', K v w' → K' v w') : Okay P o a w K' := by
  unfold Okay at *
  generalize (execOp a.eval o).run P w = r at *
  cases r with
  | ok n w' =>
    cases n <;> simp only at h ⊢
    case value v => exact hk _ _ h
    case skip => exact hk _ _ h
    case enter f args => exact h.mono fun e w'' ⟨v, he, hv⟩ => ⟨v, he, hk _ _ hv⟩
  | halt x w' => exact h
theorem Okay.wp {P : Program} {o : Oper} {a : Act} {w : World} {K : Value → World → Prop} {K' : Act → World → Prop} {Q : Exit → Act → World → Prop} (h : Okay P o a w K) (hk : ∀ v w', K v w' → K' (a.put o.dst v) w') : o.wp P a w K' Q := by
  unfold Okay at h
  unfold Oper.wp
  generalize (execOp a.eval o).run P w = r at *
  cases r with
  | ok n w' =>
    cases n <;> simp only at h <;> simp only [Oper.upon]
    case value v => exact hk _ _ h
    case skip => exact hk _ _ h
    case enter f args => exact h.mono fun e w'' ⟨v, he, hv⟩ => by subst he; exact hk _ _ hv
  | halt x w' => exact h.elim
/-- The operations one after the other. -/
def lst (P : Program) (l0 : Array Oper) (K : Act → World → Prop) : List Oper → Act → World → Prop
  | [], a, w => K a w
  | o :: rest, a, w => if Region.wanted o (yielded l0 a.tmps) then Okay P o a w (fun v w' => lst P l0 K rest (a.put o.dst v) w') else lst P l0 K rest (a.put o.dst undef) w
theorem wpList_of_lst {P : Program} {l0 : Array Oper} {K : Act → World → Prop} {Q : Exit → Act → World → Prop} (hk : ∀ a w, K a w → Q .normal a w) :
    ∀ (l : List Oper) (a : Act) (w : World), lst P l0 K l a w → wpList P l0 Q l a w
  | [], a, w, h => hk _ _ h
  | o :: rest, a, w, h => by
    unfold lst at h
    unfold wpList
    split
    · rename_i hw
      rw [if_pos hw] at h
      exact .inl (h.wp fun v w' hv => wpList_of_lst hk rest _ _ hv)
    · rename_i hw
      rw [if_neg hw] at h
      exact wpList_of_lst hk rest _ _ h
def Stp (C : Pr) (o : Oper) (fm : FM) (M : View) (own : List OB) (K : Value → View → List OB → Prop) : Prop :=
  ∀ a w, FrOk C.n a fm → St C.wE C.mu M own w → Okay C.P o a w (fun v w' => ∃ M' own', St C.wE C.mu M' own' w' ∧ K v M' own')
def OL (C : Pr) (l0 : Array Oper) (l : List Oper) (fm : FM) (M : View) (own : List OB) (K : SP) : Prop :=
  ∀ a w, FrOk C.n a fm → St C.wE C.mu M own w → lst C.P l0 (real C K) l a w
section
variable {C : Pr} {l0 : Array Oper} {rest : List Oper} {fm : FM} {M : View} {own : List OB} {K : SP} {d : Nat} {op : Op} {ty : TypeId} {pos : String} {af : Array Edge}
theorem ol_nil (h : K fm M own) : OL C l0 [] fm M own K := fun _ _ hf hs => ⟨_, _, _, hf, hs, h⟩
theorem ol_val (hd : Nat.blt d C.n = true) (h : Stp C ⟨some d, op, ty, pos, af, none⟩ fm M own (fun v M' own' => OL C l0 rest ((d, v) :: fm) M' own' K)) :
    OL C l0 (⟨some d, op, ty, pos, af, none⟩ :: rest) fm M own K := by
  intro a w hf hs
  unfold lst
  rw [if_pos (by simp [Region.wanted])]
  refine (h a w hf hs).mono fun v w' hv => ?_
  obtain ⟨M', own', hs', hk⟩ := hv
  exact hk _ _ (hf.put hd v) hs'
theorem ol_eff (h : Stp C ⟨none, op, ty, pos, af, none⟩ fm M own (fun _ M' own' => OL C l0 rest fm M' own' K)) :
    OL C l0 (⟨none, op, ty, pos, af, none⟩ :: rest) fm M own K := by
  intro a w hf hs
  unfold lst
  rw [if_pos (by simp [Region.wanted])]
  refine (h a w hf hs).mono fun v w' hv => ?_
  obtain ⟨M', own', hs', hk⟩ := hv
  exact hk _ _ hf hs'
/-- The guard's temporary. -/
def gdst (l0 : Array Oper) (j : Nat) : Option Nat := (l0[j]?).bind (·.dst)
theorem yielded_of {n : Nat} {a : Act} {j s : Nat} {b : Bool} (hf : FrOk n a fm) (hj : gdst l0 j = some s) (hs : fm.get s = some (.bool b)) : yielded l0 a.tmps j = some b := by
  unfold gdst at hj
  unfold yielded
  rw [hj]
  simp [hf.get _ _ hs]
/-- A guard that was itself skipped answers neither way. -/
theorem yielded_undef {n : Nat} {a : Act} {j s : Nat} (hf : FrOk n a fm) (hj : gdst l0 j = some s) (hs : fm.get s = some undef) : yielded l0 a.tmps j = none := by
  unfold gdst at hj
  unfold yielded
  rw [hj]
  simp [hf.get _ _ hs, undef]
theorem ol_gskipu {j s : Nat} {want : Bool} (hj : gdst l0 j = some s) (hg : fm.get s = some undef)
    (hd : Nat.blt d C.n = true) (h : OL C l0 rest ((d, undef) :: fm) M own K) :
    OL C l0 (⟨some d, op, ty, pos, af, some (j, want)⟩ :: rest) fm M own K := by
  intro a w hf hs
  unfold lst
  rw [if_neg (by simp [Region.wanted, yielded_undef hf hj hg])]
  exact h _ _ (hf.put hd undef) hs
theorem ol_gval {j s : Nat} {want b : Bool} (hd : Nat.blt d C.n = true) (hj : gdst l0 j = some s) (hg : fm.get s = some (.bool b)) (hb : b = want)
    (h : Stp C ⟨some d, op, ty, pos, af, some (j, want)⟩ fm M own (fun v M' own' => OL C l0 rest ((d, v) :: fm) M' own' K)) :
    OL C l0 (⟨some d, op, ty, pos, af, some (j, want)⟩ :: rest) fm M own K := by
  intro a w hf hs
  unfold lst
  rw [if_pos (by simp [Region.wanted, yielded_of hf hj hg, hb])]
  refine (h a w hf hs).mono fun v w' hv => ?_
  obtain ⟨M', own', hs', hk⟩ := hv
  exact hk _ _ (hf.put hd v) hs'
theorem ol_gskip {j s : Nat} {want b : Bool} (hj : gdst l0 j = some s) (hg : fm.get s = some (.bool b)) (hb : b = !want)
    (hd : Nat.blt d C.n = true) (h : OL C l0 rest ((d, undef) :: fm) M own K) :
    OL C l0 (⟨some d, op, ty, pos, af, some (j, want)⟩ :: rest) fm M own K := by
  intro a w hf hs
  unfold lst
  rw [if_neg (by subst hb; simp [Region.wanted, yielded_of hf hj hg])]
  exact h _ _ (hf.put hd undef) hs
theorem cw_region {id : Nat} {l : List Oper} {X : Nat → SP} {R : SP} (h : OL C l.toArray l fm M own K) : CW C (.region id l.toArray false) fm M own K X R :=
  fun a w hf hs => wp_region_lit (wpList_of_lst (fun _ _ h => h) _ _ _ (h a w hf hs))
end
section
variable {C : Pr} {fm : FM} {M : View} {own : List OB} {K : Value → View → List OB → Prop} {d : Option Nat} {ty : TypeId} {pos : String} {af : Array Edge} {g : Option (Nat × Bool)}
/-- It leaves the world as it is, and comes to v. -/
def Pur (C : Pr) (o : Oper) (fm : FM) (M : View) (own : List OB) (v : Value) : Prop :=
  ∀ a w, FrOk C.n a fm → St C.wE C.mu M own w → (execOp a.eval o).run C.P w = .ok (.value v) w
/-- A test: true where p holds, else false. -/
structure Cmp (C : Pr) (o : Oper) (fm : FM) (M : View) (own : List OB) (p : Prop) : Prop where
  yes : p → Pur C o fm M own (.bool true)
  no : ¬ p → Pur C o fm M own (.bool false)
theorem stp_pur {o : Oper} {v : Value} (h : Pur C o fm M own v) (k : K v M own) : Stp C o fm M own K := by
  intro a w hf hs
  unfold Okay
  rw [h a w hf hs]
  exact ⟨M, own, hs, k⟩
theorem stp_cmp {o : Oper} {p : Prop} (h : Cmp C o fm M own p) (k1 : ∀ _ : p, K (.bool true) M own) (k2 : ∀ _ : ¬ p, K (.bool false) M own) : Stp C o fm M own K := by
  by_cases hp : p
  · exact stp_pur (h.yes hp) (k1 hp)
  · exact stp_pur (h.no hp) (k2 hp)
theorem s_move {x : Operand} {v : Value} (hx : ev fm x = some v) : Pur C ⟨d, .move x, ty, pos, af, g⟩ fm M own v :=
  fun a w hf _ => ( by simp [execOp, hf.eval hx])
theorem s_assign {x : Operand} {v : Value} (hx : ev fm x = some v) : Pur C ⟨d, .assign x, ty, pos, af, g⟩ fm M own v :=
  fun a w hf _ => ( by simp [execOp, hf.eval hx])
theorem s_pick_t {c x y : Operand} {b : Bool} {v : Value} (hc : ev fm c = some (.bool b)) (hb : b = true) (hx : ev fm x = some v) : Pur C ⟨d, .pick c x y, ty, pos, af, g⟩ fm M own v :=
  fun a w hf _ => ( by subst hb; simp [execOp, hf.eval hc, hf.eval hx, asBool])
theorem s_pick_f {c x y : Operand} {b : Bool} {v : Value} (hc : ev fm c = some (.bool b)) (hb : b = false) (hx : ev fm y = some v) : Pur C ⟨d, .pick c x y, ty, pos, af, g⟩ fm M own v :=
  fun a w hf _ => ( by subst hb; simp [execOp, hf.eval hc, hf.eval hx, asBool])
section
variable {t t' : TypeId} {x y : Operand} {k1 : IntKind} {m n : Int}
theorem s_cmp {op : BinOp} {r : Bool} (hx : ev fm x = some (.int k1 m)) (hy : ev fm y = some (.int k1 n)) (hr : binOp op t (.int k1 m) (.int k1 n) = pure (.bool r)) : Pur C ⟨d, .binOp op t x y t', ty, pos, af, g⟩ fm M own (.bool r) :=
  fun a w hf _ => ( by simp [execOp, hf.eval hx, hf.eval hy, hr, eqGuard_at_int])
theorem s_lss (hx : ev fm x = some (.int k1 m)) (hy : ev fm y = some (.int k1 n)) : Cmp C ⟨d, .binOp .lss t x y t', ty, pos, af, g⟩ fm M own (m < n) :=
  ⟨fun h => s_cmp hx hy (by rw [binOp_lss]; simp only [h, decide_true]), fun h => s_cmp hx hy (by rw [binOp_lss]; simp only [h, decide_false])⟩
theorem s_leq (hx : ev fm x = some (.int k1 m)) (hy : ev fm y = some (.int k1 n)) : Cmp C ⟨d, .binOp .leq t x y t', ty, pos, af, g⟩ fm M own (m ≤ n) :=
  ⟨fun h => s_cmp hx hy (by rw [binOp_leq]; simp only [h, decide_true]), fun h => s_cmp hx hy (by rw [binOp_leq]; simp only [h, decide_false])⟩
theorem s_gtr (hx : ev fm x = some (.int k1 m)) (hy : ev fm y = some (.int k1 n)) : Cmp C ⟨d, .binOp .gtr t x y t', ty, pos, af, g⟩ fm M own (n < m) :=
  ⟨fun h => s_cmp hx hy (by rw [binOp_gtr, decide_eq_true (show m > n from h)]), fun h => s_cmp hx hy (by rw [binOp_gtr, decide_eq_false (show ¬ m > n from h)])⟩
theorem s_geq (hx : ev fm x = some (.int k1 m)) (hy : ev fm y = some (.int k1 n)) : Cmp C ⟨d, .binOp .geq t x y t', ty, pos, af, g⟩ fm M own (n ≤ m) :=
  ⟨fun h => s_cmp hx hy (by rw [binOp_geq, decide_eq_true (show m ≥ n from h)]), fun h => s_cmp hx hy (by rw [binOp_geq, decide_eq_false (show ¬ m ≥ n from h)])⟩
theorem s_eql (hx : ev fm x = some (.int k1 m)) (hy : ev fm y = some (.int k1 n)) : Cmp C ⟨d, .binOp .eql t x y t', ty, pos, af, g⟩ fm M own (m = n) :=
  ⟨fun h => s_cmp hx hy (by rw [binOp_eql, show (m == n) = true from by simpa using h]), fun h => s_cmp hx hy (by rw [binOp_eql, show (m == n) = false from by simpa using h])⟩
theorem s_neq (hx : ev fm x = some (.int k1 m)) (hy : ev fm y = some (.int k1 n)) : Cmp C ⟨d, .binOp .neq t x y t', ty, pos, af, g⟩ fm M own (¬ m = n) :=
  ⟨fun h => s_cmp hx hy (by rw [binOp_neq, show (m != n) = true from by simpa using h]), fun h => s_cmp hx hy (by rw [binOp_neq, show (m != n) = false from by simpa using Decidable.not_not.1 h])⟩
end
section
variable {t t' : TypeId} {x y : Operand} {k1 : IntKind} {m n : Int}
theorem s_arith {op : BinOp} {k1 k2 k3 : IntKind} {r : Int} (hx : ev fm x = some (.int k1 m)) (hy : ev fm y = some (.int k2 n)) (hr : binOp op t (.int k1 m) (.int k2 n) = pure (.int k3 r)) : Pur C ⟨d, .binOp op t x y t', ty, pos, af, g⟩ fm M own (.int k3 r) :=
  fun a w hf _ => ( by simp [execOp, hf.eval hx, hf.eval hy, hr, eqGuard_at_int])
theorem s_add64 (hx : ev fm x = some (.int .i64 m)) (hy : ev fm y = some (.int .i64 n)) (h : -9223372036854775808 ≤ m + n ∧ m + n ≤ 9223372036854775807) : Pur C ⟨d, .binOp .add t x y t', ty, pos, af, g⟩ fm M own (.int .i64 (m + n)) :=
  s_arith hx hy (by rw [binOp_add, Op.intArith, IntWalk.i64_in _ h])
theorem s_sub64 (hx : ev fm x = some (.int .i64 m)) (hy : ev fm y = some (.int .i64 n)) (h : -9223372036854775808 ≤ m - n ∧ m - n ≤ 9223372036854775807) : Pur C ⟨d, .binOp .sub t x y t', ty, pos, af, g⟩ fm M own (.int .i64 (m - n)) :=
  s_arith hx hy (by rw [binOp_sub, Op.intArith, IntWalk.i64_in _ h])
theorem s_mul64 (hx : ev fm x = some (.int .i64 m)) (hy : ev fm y = some (.int .i64 n)) (h : -9223372036854775808 ≤ m * n ∧ m * n ≤ 9223372036854775807) : Pur C ⟨d, .binOp .mul t x y t', ty, pos, af, g⟩ fm M own (.int .i64 (m * n)) :=
  s_arith hx hy (by rw [binOp_mul, Op.intArith, IntWalk.i64_in _ h])
theorem s_quo64 (hx : ev fm x = some (.int .i64 m)) (hy : ev fm y = some (.int .i64 n)) (h : 0 ≤ m ∧ m ≤ 9223372036854775807 ∧ 1 ≤ n) : Pur C ⟨d, .binOp .quo t x y t', ty, pos, af, g⟩ fm M own (.int .i64 (m / n)) :=
  s_arith hx hy (by rw [binOp_quo, Op.intDiv, if_neg (by omega), IntWalk.i64_quo _ _ h])
theorem s_rem64 (hx : ev fm x = some (.int k1 m)) (hy : ev fm y = some (.int k1 n)) (h : 0 ≤ m ∧ 1 ≤ n) : Pur C ⟨d, .binOp .rem t x y t', ty, pos, af, g⟩ fm M own (.int k1 (m % n)) :=
  s_arith hx hy (by rw [binOp_rem, Op.intDiv, if_neg (by omega), Int.tmod_eq_emod_of_nonneg h.1])
theorem s_and (hx : ev fm x = some (.int k1 m)) (hy : ev fm y = some (.int k1 n)) : Pur C ⟨d, .binOp .and t x y t', ty, pos, af, g⟩ fm M own (.int k1 (bits .and k1 m n)) :=
  s_arith hx hy (by rw [binOp_and, intBits_and])
theorem s_or (hx : ev fm x = some (.int k1 m)) (hy : ev fm y = some (.int k1 n)) : Pur C ⟨d, .binOp .or t x y t', ty, pos, af, g⟩ fm M own (.int k1 (bits .or k1 m n)) :=
  s_arith hx hy (by rw [binOp_or, intBits_or])
theorem s_shr {yk : IntKind} (hx : ev fm x = some (.int k1 m)) (hy : ev fm y = some (.int yk n)) (h : 0 ≤ n ∧ n ≤ k1.bits) : Pur C ⟨d, .binOp .shr t x y t', ty, pos, af, g⟩ fm M own (.int k1 (m / 2 ^ n.toNat)) :=
  s_arith hx hy (by rw [binOp_shr, shift_shr _ _ _ _ h.1 h.2])
theorem s_shlW {yk : IntKind} (hx : ev fm x = some (.int k1 m)) (hy : ev fm y = some (.int yk n)) (h : 0 ≤ n ∧ n ≤ k1.bits) : Pur C ⟨d, .binOp .shl t x y t', ty, pos, af, g⟩ fm M own (.int k1 (k1.wrap (m * 2 ^ n.toNat))) :=
  s_arith hx hy (by rw [binOp_shl, shift_shl _ _ _ _ h.1 h.2])
theorem s_not {b : Bool} (hx : ev fm x = some (.bool b)) : Pur C ⟨d, .unOp .not t x, ty, pos, af, g⟩ fm M own (.bool (!b)) :=
  fun a w hf _ => ( by simp [execOp, hf.eval hx, Op.unary])
theorem s_not_t {b : Bool} (hx : ev fm x = some (.bool b)) (hb : b = true) : Pur C ⟨d, .unOp .not t x, ty, pos, af, g⟩ fm M own (.bool false) := by subst hb; exact s_not hx
theorem s_not_f {b : Bool} (hx : ev fm x = some (.bool b)) (hb : b = false) : Pur C ⟨d, .unOp .not t x, ty, pos, af, g⟩ fm M own (.bool true) := by subst hb; exact s_not hx
def tdInt (P : Program) (t : TypeId) : Option IntKind := match P.underlying t with | some (.int k) => some k | _ => none
theorem tdInt_eq {P : Program} {t : TypeId} {k : IntKind} (h : tdInt P t = some k) : P.underlying t = some (.int k) := by
  unfold tdInt at h; split at h
  · rename_i e; injection h with h; subst h; exact e
  · cases h
theorem s_conv {src dst : TypeId} {k2 : IntKind} {r : Int} (hx : ev fm x = some (.int k1 m)) (hs : (C.P.underlying src).isSome = true) (hd : tdInt C.P dst = some k2) (hr : k2.wrap m = r) : Pur C ⟨d, .convert src dst x, ty, pos, af, g⟩ fm M own (.int k2 r) :=
  fun a w hf _ => ( by
    have e := tdInt_eq hd
    have hk : C.P.intKind dst = k2 := by simp [Program.intKind, e]
    have := run_convert_int (P := C.P) w src dst k1 m hs (by rw [hk]; exact e)
    rw [hk, hr] at this
    simp [execOp, hf.eval hx, this])
end
def tdSlice (P : Program) (t : TypeId) : Option TypeId := match P.underlying t with | some (.slice e) => some e | _ => none
theorem tdSlice_eq {P : Program} {t e : TypeId} (h : tdSlice P t = some e) : P.underlying t = some (.slice e) := by
  unfold tdSlice at h; split at h
  · rename_i e; injection h with h; subst h; exact e
  · cases h
theorem s_len {x : Operand} {t e : TypeId} {a : Option Addr} {n c : Nat} (hx : ev fm x = some (.slice a n c)) (ht : tdSlice C.P t = some e) : Pur C ⟨d, .call { callee := .builtin .len, args := #[x], argTypes := #[t] }, ty, pos, af, g⟩ fm M own (.int .i64 n) :=
  fun a w hf _ => ( by simp [execOp, resolve, invoke, builtin, hf.eval hx, Builtin.len_, run_underlying (tdSlice_eq ht), goInt])
def sizeB (P : Program) (t : TypeId) : Option Nat := (P.info? t).map (·.size)
def zeroB (P : Program) (t : TypeId) : Option Value := (P.info? t).bind (·.zero)
def aggB (P : Program) (t : TypeId) : Option Bool := match P.underlying t with
  | some (.struct _) => some true
  | some (.array _ _) => some true
  | some _ => some false
  | none => none
theorem run_sizeOf {P : Program} {t : TypeId} {n : Nat} (h : sizeB P t = some n) (w : World) : (sizeOf t).run P w = .ok n w := by
  unfold sizeB at h
  cases e : P.info? t with
  | none => rw [e] at h; cases h
  | some i => rw [e] at h; injection h with h; subst h; simp [sizeOf, typeInfo, e]
theorem run_zeroValue {P : Program} {t : TypeId} {z : Value} (h : zeroB P t = some z) (w : World) : (zeroValue t).run P w = .ok z w := by
  unfold zeroB at h
  cases e : P.info? t with
  | none => rw [e] at h; cases h
  | some i => rw [e] at h; simp at h; simp [zeroValue, typeInfo, e, h]
theorem run_isAgg {P : Program} {t : TypeId} {b : Bool} (h : aggB P t = some b) (w : World) : (isAgg t).run P w = .ok b w := by
  unfold aggB at h
  split at h <;> rename_i e
  · injection h with h; subst h; simp [isAgg, run_underlying e]
  · injection h with h; subst h; simp [isAgg, run_underlying e]
  · rename_i u h1 h2
    injection h with h; subst h
    cases u <;> simp_all [isAgg, run_underlying e]
  · cases h
def fieldB (P : Program) (s i : Nat) : Option Nat := match P.underlying s with
  | some (.struct fs) => match fs[i]? with
    | some f => match P.info? f.type with
      | some inf => match inf.size with
        | 0 => none
        | _ + 1 => some f.offset
      | none => none
    | none => none
  | _ => none
theorem run_fieldAt {P : Program} {s i off : Nat} (h : fieldB P s i = some off) (b o : Nat) (w : World) : (Instr.fieldAt s (.pointer (some ⟨b, o, none⟩)) i).run P w = .ok (.pointer (some ⟨b, o + off, none⟩)) w := by
  unfold fieldB at h
  split at h
  · rename_i fs e1
    split at h
    · rename_i f e2
      split at h
      · rename_i inf e3
        split at h
        · cases h
        · rename_i n e4
          injection h with h
          subst h
          simp [Instr.fieldAt, run_underlying e1, e2, Instr.sureAddr, fieldPlace, sizeOf, typeInfo, e3, e4, Addr.add_lit]
      · cases h
    · cases h
  · cases h
theorem s_fieldAddr {s i off b o : Nat} {x : Operand} (hx : ev fm x = some (.pointer (some ⟨b, o, none⟩))) (h : fieldB C.P s i = some off) : Pur C ⟨d, .fieldAddr s x i, ty, pos, af, g⟩ fm M own (.pointer (some ⟨b, o + off, none⟩)) :=
  fun a w hf _ => ( by simp [execOp, hf.eval hx, run_fieldAt h])
/-- (the same, the offset reckoned) -/
theorem s_fieldAddr' {s i off b o r : Nat} {x : Operand} (hx : ev fm x = some (.pointer (some ⟨b, o, none⟩))) (h : fieldB C.P s i = some off) (hr : o + off = r) : Pur C ⟨d, .fieldAddr s x i, ty, pos, af, g⟩ fm M own (.pointer (some ⟨b, r, none⟩)) := by
  subst hr; exact s_fieldAddr hx h
theorem s_indexAddr {t e sz b o n c r : Nat} {x y : Operand} {ik : IntKind} {i : Int} (hx : ev fm x = some (.slice (some ⟨b, o, none⟩) n c)) (hy : ev fm y = some (.int ik i)) (ht : tdSlice C.P t = some e) (hs : sizeB C.P e = some sz) (hi : 0 ≤ i ∧ i < n) (hr : o + i.toNat * sz = r)
    : Pur C ⟨d, .indexAddr t x y, ty, pos, af, g⟩ fm M own (.pointer (some ⟨b, r, none⟩)) :=
  fun a w hf _ => ( by
    simp [execOp, hf.eval hx, hf.eval hy, Instr.indexAt, asIntOf, run_underlying (tdSlice_eq ht), run_sizeOf hs, hi, Addr.add_lit, hr])
def tdArray (P : Program) (t : TypeId) : Option (Nat × TypeId) := match P.underlying t with | some (.array n e) => some (n, e) | _ => none
theorem tdArray_eq {P : Program} {t n e : TypeId} (h : tdArray P t = some (n, e)) : P.underlying t = some (.array n e) := by
  unfold tdArray at h; split at h
  · rename_i e; injection h with h; injection h with h1 h2; subst h1; subst h2; exact e
  · cases h
inductive Has : List OB → OB → Prop
  | here {x : OB} {l : List OB} : Has (x :: l) x
  | there {z x : OB} {l : List OB} : Has l x → Has (z :: l) x
theorem Has.mem {l : List OB} {x : OB} (h : Has l x) : x ∈ l := by
  induction h with
  | here => exact List.mem_cons_self
  | there _ ih => exact List.mem_cons_of_mem _ ih
/-- n cells from 'off' on. -/
inductive GetN (f : Nat → Option Value) : Nat → Nat → List Value → Prop
  | nil {off : Nat} : GetN f off 0 []
  | cons {off n : Nat} {v : Value} {vs : List Value} : f off = some v → GetN f (off + 1) n vs → GetN f off (n + 1) (v :: vs)
theorem GetN.length {f : Nat → Option Value} {off n : Nat} {vs : List Value} (h : GetN f off n vs) : vs.length = n := by
  induction h with
  | nil => rfl
  | cons _ _ ih => simp [ih]
theorem GetN.at {f : Nat → Option Value} {off n : Nat} {vs : List Value} (h : GetN f off n vs) : ∀ j, j < n → f (off + j) = some (vs.getD j undef) := by
  induction h with
  | nil => intro j hj; omega
  | cons h1 _ ih =>
    intro j hj
    cases j with
    | zero => simpa using h1
    | succ j => have := ih j (by omega); simpa [Nat.add_assoc, Nat.add_comm 1 j] using this
theorem GetN.mono {f f' : Nat → Option Value} {off n : Nat} {vs : List Value} (h : GetN f off n vs) (hf : ∀ i v, f i = some v → f' i = some v) : GetN f' off n vs := by
  induction h with
  | nil => exact .nil
  | cons h1 _ ih => exact .cons (hf _ _ h1) ih
theorem GetN.of_at {f : Nat → Option Value} {vs : List Value} : ∀ {off : Nat}, (∀ j (h : j < vs.length), f (off + j) = some vs[j]) → GetN f off vs.length vs := by
  induction vs with
  | nil => intro off _; exact .nil
  | cons v vs ih =>
    intro off h
    refine .cons (by have := h 0 (by simp); simpa only [Nat.add_zero, List.getElem_cons_zero] using this) (ih fun j hj => ?_)
    have := h (j + 1) (by simpa using hj)
    simpa [Nat.add_assoc, Nat.add_comm 1 j] using this
/-- Cells that can be read: in a block of ours, or in the view. -/
inductive RdN (M : View) (own : List OB) (b off n : Nat) (vs : List Value) : Prop
  | own {cs : List Value} {T : TypeId} : Has own ⟨some b, cs, T⟩ → GetN (cs[·]?) off n vs → RdN M own b off n vs
  | view : GetN (M.cell b) off n vs → RdN M own b off n vs
theorem St.cell {wE : World} {mu : List Nat} {w : World} (hs : St wE mu M own w) {b off n : Nat} {vs : List Value} (h : RdN M own b off n vs) : GetN (fun i => w.cell? ⟨b, i, none⟩) off n vs := by
  cases h with
  | own hh hg =>
    obtain ⟨fz, _, this⟩ := OB.ok_some (hs.cells _ hh.mem)
    refine hg.mono fun i v hv => ?_
    simp only [World.cell?]
    rw [this]
    simpa using hv
  | view hg =>
    refine hg.mono fun i v hv => ?_
    have := hs.le.cell hv
    unfold View.cell View.of at this
    unfold World.cell?
    simp only
    cases e : w.heap[b]? with
    | none => rw [e] at this; cases this
    | some o => rw [e] at this; cases o <;> first | exact this | cases this
theorem run_load1 {wE : World} {mu : List Nat} {w : World} (hs : St wE mu M own w) {t b off : Nat} {v : Value} (ht : aggB C.P t = some false) (h : RdN M own b off 1 [v]) : (Instr.loadAt t (.pointer (some ⟨b, off, none⟩))).run C.P w = .ok v w := by
  have h1 := hs.cell h
  cases h1 with
  | cons h2 _ => simp [Instr.loadAt, Instr.sureAddr, loadVar, run_isAgg ht, h2]
theorem run_loadN {wE : World} {mu : List Nat} {w : World} (hs : St wE mu M own w) {t b off n : Nat} {vs : List Value} (ht : aggB C.P t = some true) (hn : sizeB C.P t = some n) (h : RdN M own b off n vs) : (Instr.loadAt t (.pointer (some ⟨b, off, none⟩))).run C.P w = .ok (.agg vs.toArray) w := by
  have h1 := hs.cell h
  have hl := run_loadCells (P := C.P) w ⟨b, off, none⟩ n (fun j => vs.getD j undef) (fun j hj => by rw [Addr.add_lit]; exact h1.at j hj)
  have e : (List.range n).map (fun j => vs.getD j undef) = vs := by
    apply List.ext_getElem
    · simp [h1.length]
    · intro i h1 h2; simp [List.getD, List.getElem?_eq_getElem h2]
  rw [e] at hl
  simp [Instr.loadAt, Instr.sureAddr, loadVar, run_isAgg ht, run_sizeOf hn, hl]
theorem s_load1 {x : Operand} {t b off : Nat} {v : Value} (hx : ev fm x = some (.pointer (some ⟨b, off, none⟩))) (ht : aggB C.P t = some false) (h : RdN M own b off 1 [v]) : Pur C ⟨d, .load t x, ty, pos, af, g⟩ fm M own v :=
  fun a w hf hs => ( by simp [execOp, hf.eval hx, run_load1 hs ht h])
theorem s_loadN {x : Operand} {t b off n : Nat} {vs : List Value} (hx : ev fm x = some (.pointer (some ⟨b, off, none⟩))) (ht : aggB C.P t = some true) (hn : sizeB C.P t = some n) (h : RdN M own b off n vs) : Pur C ⟨d, .load t x, ty, pos, af, g⟩ fm M own (.agg vs.toArray) :=
  fun a w hf hs => ( by simp [execOp, hf.eval hx, run_loadN hs ht hn h])
theorem stp_new {o : Oper} {cs : List Value} {T : TypeId} {v : Nat → Value} (h : ∀ a w, FrOk C.n a fm → St C.wE C.mu M own w → (execOp a.eval o).run C.P w = .ok (.value (v w.heap.size)) { w with heap := w.heap.push (.cells cs.toArray T) })
    (k : ∀ b, K (v b) M (⟨some b, cs, T⟩ :: own)) : Stp C o fm M own K := by
  intro a w hf hs
  unfold Okay
  rw [h a w hf hs]
  exact ⟨M, _, hs.newBlock cs T rfl rfl rfl rfl, k _⟩
/-- A list written out, cell by cell. -/
inductive LEq : List Value → List Value → Prop
  | nil : LEq [] []
  | cons {v : Value} {l l' : List Value} : LEq l l' → LEq (v :: l) (v :: l')
theorem LEq.eq {l l' : List Value} (h : LEq l l') : l = l' := by
  induction h with
  | nil => rfl
  | cons _ ih => rw [ih]
theorem s_alloc {t : TypeId} {z : Value} {cs : List Value} (hz : zeroB C.P t = some z) (hc : LEq z.cells.toList cs) (k : ∀ b, K (.pointer (some ⟨b, 0, none⟩)) M (⟨some b, cs, t⟩ :: own)) : Stp C ⟨d, .alloc t, ty, pos, af, g⟩ fm M own K :=
  stp_new (v := fun b => .pointer (some ⟨b, 0, none⟩)) (fun a w _ _ => by
    have := hc.eq
    subst this
    simp [execOp, Instr.alloc, run_zeroValue hz, newVar, newRow, -World.alloc_eq]) k
theorem s_box1 {x : Operand} {t : TypeId} {v : Value} (hx : ev fm x = some v) (hv : v.oneCell' = true) (k : ∀ b, K (.pointer (some ⟨b, 0, none⟩)) M (⟨some b, [v], t⟩ :: own)) : Stp C ⟨d, .box t x, ty, pos, af, g⟩ fm M own K :=
  stp_new (v := fun b => .pointer (some ⟨b, 0, none⟩)) (fun a w hf _ => by
    have : v.cells = #[v] := by cases v <;> first | rfl | (simp [Value.oneCell'] at hv)
    simp [execOp, Instr.box, hf.eval hx, newVar, newRow, this, -World.alloc_eq]) k
theorem s_boxN {x : Operand} {t : TypeId} {vs : List Value} (hx : ev fm x = some (.agg vs.toArray)) (k : ∀ b, K (.pointer (some ⟨b, 0, none⟩)) M (⟨some b, vs, t⟩ :: own)) : Stp C ⟨d, .box t x, ty, pos, af, g⟩ fm M own K :=
  stp_new (v := fun b => .pointer (some ⟨b, 0, none⟩)) (fun a w hf _ => by
    simp [execOp, Instr.box, hf.eval hx, newVar, newRow, Value.cells, -World.alloc_eq]) k
inductive SetAt : List Value → Nat → Value → List Value → Prop
  | zero {u v : Value} {l : List Value} : SetAt (u :: l) 0 v (v :: l)
  | succ {u v : Value} {n : Nat} {l l' : List Value} : SetAt l n v l' → SetAt (u :: l) (n + 1) v (u :: l')
  | set {v : Value} {n : Nat} {l : List Value} : n < l.length → SetAt l n v (l.set n v)
theorem SetAt.spec {l l' : List Value} {n : Nat} {v : Value} (h : SetAt l n v l') : n < l.length ∧ l' = l.set n v := by
  induction h with
  | zero => simp
  | succ _ ih => simp [ih.1, ih.2]
  | set h => exact ⟨h, rfl⟩
inductive SetN : List Value → Nat → List Value → List Value → Prop
  | nil {l : List Value} {n : Nat} : SetN l n [] l
  | cons {l l' l'' : List Value} {n : Nat} {v : Value} {vs : List Value} : SetAt l n v l' → SetN l' (n + 1) vs l'' → SetN l n (v :: vs) l''
theorem St.store1 {wE : World} {mu : List Nat} {w : World} {own' : List OB} (hs : St wE mu M own w) {b off : Nat} {cs cs' : List Value} {T : TypeId} {v : Value} (hr : Repl own ⟨some b, cs, T⟩ ⟨some b, cs', T⟩ own') (hc : SetAt cs off v cs') (hv : v.oneCell' = true) :
    ∃ w', (store ⟨b, off, none⟩ v).run C.P w = .ok () w' ∧ St wE mu M own' w' := by
  obtain ⟨h1, rfl⟩ := hc.spec
  obtain ⟨fz, hfz, hb⟩ := OB.ok_some (hs.cells _ hr.mem)
  have hcell : w.cell? ⟨b, off, none⟩ = some cs[off] := by
    simp only [World.cell?, hb]; simp [h1]
  have hfz' : w.frozen? ⟨b, off, none⟩ = false := by
    obtain ⟨lo, hi⟩ := fz
    simp only [World.frozen?, hb]
    unfold fzOk at hfz
    simp only at hfz
    rcases hfz with h | h
    · simp; omega
    · simp only [Prod.mk.injEq] at h; obtain ⟨rfl, rfl⟩ := h; simp
  refine ⟨w.setCell ⟨b, off, none⟩ v, ?_, ?_⟩
  · rw [run_store _ _ _ _ _ hv, hcell]; simp [hfz']
  · refine hs.write hr ?_ (fun k hk => ?_) (by simp) rfl rfl rfl
    · exact OB.ok_mk (fz := fz) (by simp [World.setCell, Array.getElem?_modify, hb]) (by simpa using hfz)
    · simp [World.setCell, Array.getElem?_modify, Ne.symm hk]
theorem Repl.mk : ∀ (p : List OB) {q : List OB} {x y : OB}, Repl (p ++ x :: q) x y (p ++ y :: q)
  | [], _, _, _ => .here
  | _ :: p, _, _, _ => .there (Repl.mk p)
theorem St.storeN {wE : World} {mu : List Nat} {b : Nat} {T : TypeId} {p q : List OB} : ∀ {vs cs cs' : List Value} {off i : Nat} {w : World}, St wE mu M (p ++ ⟨some b, cs, T⟩ :: q) w → SetN cs (off + i) vs cs' → (∀ v ∈ vs, v.oneCell' = true) →
    ∃ w', (storeCells ⟨b, off, none⟩ vs i).run C.P w = .ok () w' ∧ St wE mu M (p ++ ⟨some b, cs', T⟩ :: q) w'
  | [], cs, cs', off, i, w, hs, hc, _ => by
    cases hc
    exact ⟨w, by simp [storeCells], hs⟩
  | v :: vs, cs, cs', off, i, w, hs, hc, hv => by
    cases hc with
    | cons h1 h2 =>
      obtain ⟨w1, e1, s1⟩ := hs.store1 (C := C) (Repl.mk p) h1 (hv v (by simp))
      obtain ⟨w2, e2, s2⟩ := St.storeN (i := i + 1) s1 h2 (fun u hu => hv u (by simp [hu]))
      refine ⟨w2, ?_, s2⟩
      simp [storeCells, Addr.add_lit, e1, e2]
def ones : List Value → Bool
  | [] => true
  | v :: r => match v.oneCell' with | true => ones r | false => false
theorem ones_spec {l : List Value} (h : ones l = true) : ∀ v ∈ l, v.oneCell' = true := by
  induction l with
  | nil => intro v hv; cases hv
  | cons u l ih =>
    unfold ones at h
    split at h
    · rename_i hu
      intro v hv
      rcases List.mem_cons.1 hv with rfl | hv
      · exact hu
      · exact ih h v hv
    · cases h
theorem s_store1 {t : TypeId} {x y : Operand} {b off : Nat} {v : Value} {cs cs' : List Value} {T : TypeId} {own' : List OB} (hx : ev fm x = some (.pointer (some ⟨b, off, none⟩))) (hy : ev fm y = some v) (ht : sizeB C.P t = some 1) (hv : v.oneCell' = true)
    (hr : Repl own ⟨some b, cs, T⟩ ⟨some b, cs', T⟩ own') (hc : SetAt cs off v cs') (k : K undef M own') : Stp C ⟨d, .store t x y, ty, pos, af, g⟩ fm M own K := by
  intro a w hf hs
  obtain ⟨w', e, hs'⟩ := hs.store1 (C := C) hr hc hv
  have hcell : v.cells = #[v] := by cases v <;> first | rfl | (simp [Value.oneCell'] at hv)
  have hrun : (execOp a.eval ⟨d, .store t x y, ty, pos, af, g⟩).run C.P w = .ok .skip w' := by
    simp [execOp, hf.eval hx, hf.eval hy, Instr.storeAt, Instr.sureAddr, storeVar, run_sizeOf ht, hcell, storeCells, Addr.add_lit, e]
  unfold Okay
  rw [hrun]
  exact ⟨M, own', hs', k⟩
theorem s_storeN {t : TypeId} {x y : Operand} {b off n : Nat} {vs : List Value} {cs cs' : List Value} {T : TypeId} {own' : List OB} (hx : ev fm x = some (.pointer (some ⟨b, off, none⟩))) (hy : ev fm y = some (.agg vs.toArray)) (ht : sizeB C.P t = some n) (hn : vs.length = n) (hv : ones vs = true)
    (hr : Repl own ⟨some b, cs, T⟩ ⟨some b, cs', T⟩ own') (hc : SetN cs off vs cs') (k : K undef M own') : Stp C ⟨d, .store t x y, ty, pos, af, g⟩ fm M own K := by
  intro a w hf hs
  obtain ⟨p, q, rfl, rfl⟩ := hr.split
  obtain ⟨w', e, hs'⟩ := St.storeN (C := C) (off := off) (i := 0) hs (by simpa using hc) (ones_spec hv)
  have hrun : (execOp a.eval ⟨d, .store t x y, ty, pos, af, g⟩).run C.P w = .ok .skip w' := by
    simp [execOp, hf.eval hx, hf.eval hy, Instr.storeAt, Instr.sureAddr, storeVar, run_sizeOf ht, Value.cells, hn, e]
  unfold Okay
  rw [hrun]
  exact ⟨M, _, hs', k⟩
def nthV : List Value → Nat → Option Value
  | [], _ => none
  | v :: _, 0 => some v
  | _ :: r, n + 1 => nthV r n
theorem nthV_eq : ∀ (l : List Value) (i : Nat), nthV l i = l[i]?
  | [], i => by simp [nthV]
  | v :: r, 0 => by simp [nthV]
  | v :: r, i + 1 => by simp [nthV, nthV_eq r i]
theorem s_extract {x : Operand} {vs : List Value} {i : Nat} {v : Value} (hx : ev fm x = some (.tuple vs.toArray)) (hi : nthV vs i = some v) : Pur C ⟨d, .extract x i, ty, pos, af, g⟩ fm M own v :=
  fun a w hf _ => (by rw [nthV_eq] at hi; simp [execOp, hf.eval hx, Instr.extract, hi])
def evP (fm : FM) : List (Nat × Operand) → Option (List (Nat × Value))
  | [] => some []
  | (i, x) :: r => match ev fm x, evP fm r with
    | some v, some vs => some ((i, v) :: vs)
    | _, _ => none
theorem evP_eq {n : Nat} {a : Act} (hf : FrOk n a fm) : ∀ {l : List (Nat × Operand)} {vs : List (Nat × Value)}, evP fm l = some vs → l.map (fun p => (p.1, a.eval p.2)) = vs
  | [], vs, h => by simp [evP] at h; exact h.symm
  | (i, x) :: r, vs, h => by
    unfold evP at h
    split at h
    · rename_i v vs' h1 h2
      injection h with h
      subst h
      simp [hf.eval h1, evP_eq hf h2]
    · cases h
end
end Go.Fw
set_option linter.unusedSimpArgs false
set_option linter.unusedVariables false
namespace Go.Fw
open Go Go.RowKit
/-- The call returns v, the blocks 'mutd' hold something new, the blocks 'new' are new, and Ψ holds of them. -/
def Ret (P : Program) (f : FuncId) (args : List Value) (w : World) (Ψ : Value → List OB → List OB → Prop) : Prop :=
  Calls P f args.toArray w (fun e w' => ∃ v mutd new, e = .returned v ∧ Tr w w' mutd new ∧ Ψ v mutd new)
/-- Nothing that was there is written. -/
def FnC (P : Program) (f : FuncId) (args : List Value) (w : World) (Ψ : Value → List OB → Prop) : Prop :=
  Ret P f args w (fun v m new => m = [] ∧ Ψ v new)
theorem Ret.mono {P : Program} {f : FuncId} {args : List Value} {w : World} {Ψ Ψ' : Value → List OB → List OB → Prop} (h : Ret P f args w Ψ) (hk : ∀ v m n, Ψ v m n → Ψ' v m n) : Ret P f args w Ψ' :=
  Calls.mono h fun _ _ ⟨v, m, n, h1, h2, h3⟩ => ⟨v, m, n, h1, h2, hk _ _ _ h3⟩
def evs (fm : FM) : List Operand → Option (List Value)
  | [] => some []
  | x :: r => match ev fm x, evs fm r with
    | some v, some vs => some (v :: vs)
    | _, _ => none
theorem evs_eq {fm : FM} {n : Nat} {a : Act} (hf : FrOk n a fm) : ∀ {l : List Operand} {vs : List Value}, evs fm l = some vs → l.map a.eval = vs
  | [], vs, h => by simp [evs] at h; exact h.symm
  | x :: r, vs, h => by
    unfold evs at h
    split at h
    · rename_i v vs' h1 h2
      injection h with h
      subst h
      simp [hf.eval h1, evs_eq hf h2]
    · cases h
/-- A function that has a body, and is none of the model's own names. -/
def goFunc (P : Program) (f : FuncId) : Bool :=
  match P.funcs[f]? with
  | some fn => match fn.body with
    | some _ => match fn.name == "runtime.NumGoroutine" with
      | true => false
      | false => true
    | none => false
  | none => false
theorem run_callFunc {P : Program} {f : FuncId} (h : goFunc P f = true) (args : Array Value) (w : World) : (callFunc f args).run P w = .ok (.enter f args) w := by
  unfold goFunc at h
  split at h
  · rename_i fn e1
    split at h
    · rename_i c e2
      split at h
      · cases h
      · rename_i e3
        have e4 : ¬ (fn.name = "runtime.NumGoroutine") := by simpa using e3
        simp [callFunc, e1, e2, e4]
    · cases h
  · cases h
section
variable {C : Pr} {fm : FM} {M : View} {own : List OB} {K : Value → View → List OB → Prop} {d : Option Nat} {ty : TypeId} {pos : String} {af : Array Edge} {g : Option (Nat × Bool)}
theorem run_call {n : Nat} {a : Act} {f : FuncId} {xs : List Operand} {vs : List Value} {ts : Array TypeId} (hf : FrOk n a fm) (hx : evs fm xs = some vs) (hg : goFunc C.P f = true) (w : World) :
    (execOp a.eval ⟨d, .call { callee := .value (.func f), args := xs.toArray, argTypes := ts }, ty, pos, af, g⟩).run C.P w = .ok (.enter f vs.toArray) w := by
  have e : xs.toArray.map a.eval = vs.toArray := by rw [List.map_toArray, evs_eq hf hx]
  simp [execOp, resolve, Act.eval, Deferred.ofValue, invoke, evs_eq hf hx, run_callFunc hg]
theorem s_call {f : FuncId} {xs : List Operand} {vs : List Value} {ts : Array TypeId} {Ψ : Value → List OB → Prop} (hx : evs fm xs = some vs) (hg : goFunc C.P f = true)
    (hc : ∀ w, St C.wE C.mu M own w → FnC C.P f vs w Ψ) (k : ∀ v new, Ψ v new → K v M (new ++ own)) :
    Stp C ⟨d, .call { callee := .value (.func f), args := xs.toArray, argTypes := ts }, ty, pos, af, g⟩ fm M own K := by
  intro a w hf hs
  unfold Okay
  rw [run_call hf hx hg w]
  refine Calls.mono (hc w hs) fun e w' ⟨v, m, new, h1, h2, h3, h4⟩ => ⟨v, h1, M, new ++ own, ?_, k v new h4⟩
  subst h3
  exact hs.call h2
/-- A call that gives a plain value alone. -/
theorem s_callv {f : FuncId} {xs : List Operand} {vs : List Value} {ts : Array TypeId} {v : Value} (hx : evs fm xs = some vs) (hg : goFunc C.P f = true)
    (hc : ∀ w, St C.wE C.mu M own w → FnC C.P f vs w (fun u _ => u = v)) (k : K v M own) :
    Stp C ⟨d, .call { callee := .value (.func f), args := xs.toArray, argTypes := ts }, ty, pos, af, g⟩ fm M own K := by
  intro a w hf hs
  unfold Okay
  rw [run_call hf hx hg w]
  refine Calls.mono (hc w hs) fun e w' ⟨u, m, new, h1, h2, h3, h4⟩ => ⟨u, h1, M, own, ?_, ?_⟩
  · subst h3
    exact (hs.call h2).weaken (View.le.refl M) (List.sublist_append_right new own)
  · subst h4; exact k
/-- A call that writes one block of ours (and keeps to itself what it makes). -/
theorem s_callm {f : FuncId} {xs : List Operand} {vs : List Value} {ts : Array TypeId} {Ψ : Value → List Value → List OB → Prop} {b : Nat} {cs : List Value} {T : TypeId} {p q : List OB} (hx : evs fm xs = some vs) (hg : goFunc C.P f = true)
    (hc : ∀ w, St C.wE C.mu M own w → Ret C.P f vs w (fun v m new => ∃ cs', m = [⟨some b, cs', T⟩] ∧ Ψ v cs' new)) (hp : Spl own ⟨some b, cs, T⟩ p q)
    (k : ∀ v cs' new, Ψ v cs' new → K v M (p ++ ⟨some b, cs', T⟩ :: q)) :
    Stp C ⟨d, .call { callee := .value (.func f), args := xs.toArray, argTypes := ts }, ty, pos, af, g⟩ fm M own K := by
  intro a w hf hs
  unfold Okay
  rw [run_call hf hx hg w]
  refine Calls.mono (hc w hs) fun e w' ⟨v, m, new, h1, h2, cs', h3, h4⟩ => ?_
  subst h3
  rw [hp.eq] at hs
  exact ⟨v, h1, M, p ++ ⟨some b, cs', T⟩ :: q, (hs.callMut (Repl.mk p) h2).weaken (View.le.refl M) (List.sublist_append_right new _), k v cs' new h4⟩
theorem St.ok_ {wE : World} {mu : List Nat} {w : World} (hs : St wE mu M own w) {x : OB} (h : Has own x) : x.ok w := hs.cells _ h.mem
end
/-- The slots at the entry. -/
def params : Nat → List Value → FM
  | _, [] => []
  | i, v :: r => (i, v) :: params (i + 1) r
theorem params_get : ∀ (vs : List Value) (i j : Nat) (v : Value), (params i vs).get j = some v → i ≤ j ∧ vs[j - i]? = some v
  | [], _, _, _, h => by cases h
  | u :: r, i, j, v, h => by
    simp only [params, FM.get] at h
    by_cases e : i = j
    · subst e
      simp at h
      subst h
      simp
    · rw [beq_ne e] at h
      obtain ⟨h1, h2⟩ := params_get r (i + 1) j v h
      refine ⟨by omega, ?_⟩
      rw [show j - i = (j - (i + 1)) + 1 by omega]
      simpa using h2
/-- The results are read off: slots, or variables in memory. -/
inductive RVal (P : Program) (fm : FM) (M : View) (own : List OB) : List ResultVar → List Value → Prop
  | nil : RVal P fm M own [] []
  | tmp {t : Nat} {v : Value} {rs : List ResultVar} {vs : List Value} : fm.get t = some v → RVal P fm M own rs vs → RVal P fm M own (.tmp t :: rs) (v :: vs)
  | cell1 {s t b off : Nat} {v : Value} {rs : List ResultVar} {vs : List Value} : fm.get s = some (.pointer (some ⟨b, off, none⟩)) → aggB P t = some false → RdN M own b off 1 [v] → RVal P fm M own rs vs → RVal P fm M own (.cell s t :: rs) (v :: vs)
  | cellN {s t b off n : Nat} {us : List Value} {rs : List ResultVar} {vs : List Value} : fm.get s = some (.pointer (some ⟨b, off, none⟩)) → aggB P t = some true → sizeB P t = some n → RdN M own b off n us → RVal P fm M own rs vs → RVal P fm M own (.cell s t :: rs) (.agg us.toArray :: vs)
def tup : List Value → Value
  | [v] => v
  | vs => .tuple vs.toArray
def readRes (tmps : Array Value) : ResultVar → Sem Value
  | .tmp t => pure (tmps.getD t undef)
  | .cell s t => do loadVar t (← asAddr (tmps.getD s undef))
theorem results_eq (fn : Func) (tmps : Array Value) : results fn tmps = (do
    let vs ← fn.results.mapM (readRes tmps)
    pure (if h : vs.size = 1 then vs[0] else .tuple vs)) := by
  unfold results
  rfl
theorem RVal.run {P : Program} {fm : FM} {M : View} {own : List OB} {rs : List ResultVar} {vs : List Value} (h : RVal P fm M own rs vs) {n : Nat} {a : Act} {wE : World} {mu : List Nat} {w : World} (hf : FrOk n a fm) (hs : St wE mu M own w) :
    (rs.mapM (m := Sem) (readRes a.tmps)).run P w = .ok vs w := by
  induction h with
  | nil => simp
  | tmp h1 _ ih =>
    have h2 := hf.get _ _ h1
    simp only [List.mapM_cons, Sem.run_bind, readRes, Sem.run_pure, Result.andThen_ok, ih]
    simp [h2]
  | cell1 h1 h2 h3 _ ih =>
    have hl := run_load1 (C := ⟨P, n, wE, mu⟩) hs h2 h3
    simp only [Instr.loadAt, Instr.sureAddr, Sem.run_bind, Sem.run_pure, Result.andThen_ok] at hl
    have h4 := hf.get _ _ h1
    simp only [List.mapM_cons, Sem.run_bind, readRes]
    rw [Array.getD_eq_getD_getElem?, h4]
    simp only [Option.getD_some, asAddr, Sem.run_pure, Result.andThen_ok, hl, ih]
  | cellN h1 h2 h2' h3 _ ih =>
    have hl := run_loadN (C := ⟨P, n, wE, mu⟩) hs h2 h2' h3
    simp only [Instr.loadAt, Instr.sureAddr, Sem.run_bind, Sem.run_pure, Result.andThen_ok] at hl
    have h4 := hf.get _ _ h1
    simp only [List.mapM_cons, Sem.run_bind, readRes]
    rw [Array.getD_eq_getD_getElem?, h4]
    simp only [Option.getD_some, asAddr, Sem.run_pure, Result.andThen_ok, hl, ih]
theorem results_of {P : Program} {fn : Func} {fm : FM} {M : View} {own : List OB} {rs : List ResultVar} {vs : List Value} (hr : fn.results = rs.toArray) (h : RVal P fm M own rs vs) {n : Nat} {a : Act} {wE : World} {mu : List Nat} {w : World} (hf : FrOk n a fm) (hs : St wE mu M own w) :
    (results fn a.tmps).run P w = .ok (tup vs) w := by
  have := h.run hf hs
  rw [results_eq, hr]
  simp only [Sem.run_bind, List.mapM_toArray, Sem.run_map, this, Result.andThen_ok, Sem.run_pure]
  congr 1
  match vs with
  | [] => rfl
  | [v] => rfl
  | _ :: _ :: _ => rfl
/-- What a function's end must show. -/
def Ends (P : Program) (rs : List ResultVar) (Ψ : Value → List OB → List OB → Prop) (mrefs : List Nat) : SP := fun fm M own =>
  ∃ vs mutd new, RVal P fm M own rs vs ∧ Pick own (mutd ++ new) ∧ mutd.map OB.ref = mrefs.map some ∧ Ψ (tup vs) mutd new
theorem enter {P : Program} {f : FuncId} {fn : Func} {c : Code} {n : Nat} {rs : List ResultVar} {args : List Value} {w : World} {Ψ : Value → List OB → List OB → Prop} {M : View} {mutd : List OB}
    (hf : P.funcs[f]? = some fn) (hb : fn.body = some c) (hn : fn.ntmps = n) (hr : fn.results = rs.toArray) (ha : Nat.ble args.length n = true)
    (hM : View.le M (View.of w)) (hm : ∀ x ∈ mutd, x.ok w) (hsep : ∀ x ∈ mutd, ∀ b, x.ref = some b → M b = none) (hnd : (mutd.filterMap OB.ref).Nodup)
    (h : CW ⟨P, n, w, mutd.filterMap OB.ref⟩ c (params 0 args) M mutd (Ends P rs Ψ (mutd.filterMap OB.ref)) (fun _ _ _ _ => False) (Ends P rs Ψ (mutd.filterMap OB.ref))) :
    Ret P f args w Ψ := by
  refine calls_of_wp hf hb (Code.wp_mono (fun e a w' q => ?_) (h _ _ ⟨?_, rfl, ?_⟩ ⟨rfl, rfl, rfl, Nat.le_refl _, fun _ _ _ => rfl, hM, fun x hx b hb => ⟨hsep x hx b hb, .inr (List.mem_filterMap.2 ⟨x, hx, hb⟩)⟩, hm, hnd⟩))
  · have fin : ∀ (a : Act) (w' : World), real ⟨P, n, w, mutd.filterMap OB.ref⟩ (Ends P rs Ψ (mutd.filterMap OB.ref)) a w' →
        a.defers = [] ∧ ∃ v, (results fn a.tmps).run P w' = .ok v w' ∧ ∃ u m new, Ending.returned v = .returned u ∧ Tr w w' m new ∧ Ψ u m new := by
      rintro a w' ⟨fm, M', own', h1, h2, vs, m, new, h3, h4, h5, h6⟩
      refine ⟨h1.defers, tup vs, results_of hr h3 h1 h2, tup vs, m, new, rfl, ⟨h2.os, h2.tape, h2.output, h2.size, fun b hb hx => ?_, fun x hx => (h2.pick h4).cells x hx, fun x hx b hb => ?_, ?_⟩, h6⟩
      · refine h2.frame b hb fun hm' => ?_
        have : some b ∈ m.map OB.ref := by rw [h5]; exact List.mem_map.2 ⟨b, hm', rfl⟩
        obtain ⟨x, hx1, hx2⟩ := List.mem_map.1 this
        exact hx x hx1 hx2
      · have hx' : x ∈ m ++ new := List.mem_append_right _ hx
        rcases ((h2.pick h4).sep x hx' b hb).2 with h7 | h7
        · exact h7
        · exfalso
          have hnd' := (h2.pick h4).nodup
          rw [List.filterMap_append] at hnd'
          have : some b ∈ m.map OB.ref := by rw [h5]; exact List.mem_map.2 ⟨b, h7, rfl⟩
          obtain ⟨y, hy1, hy2⟩ := List.mem_map.1 this
          exact (List.nodup_append.1 hnd').2.2 b (List.mem_filterMap.2 ⟨y, hy1, hy2⟩) b (List.mem_filterMap.2 ⟨x, hx, hb⟩) rfl
      · have hnd' := (h2.pick h4).nodup
        rw [List.filterMap_append] at hnd'
        exact (List.nodup_append.1 hnd').2.1
    cases e with
    | normal => exact fin a w' q
    | ret => exact fin a w' q
    | exit i => obtain ⟨_, _, _, _, _, h⟩ := q; exact h.elim
    | goto l => exact q.elim
    | panic c => exact q.elim
    | outgrown => exact q.elim
  · have : args.length ≤ n := by simpa [Nat.ble_eq] using ha
    simp [hn]; omega
  · intro i v hv
    obtain ⟨_, h2⟩ := params_get args 0 i v hv
    simp only [Nat.sub_zero] at h2
    have hl : i < args.length := (List.getElem?_eq_some_iff.1 h2).1
    simp [Array.getElem?_append, hl]
    simpa [List.getElem?_eq_getElem hl] using h2
/-- Entry of a function that writes nothing that was there. -/
theorem enterF {P : Program} {f : FuncId} {fn : Func} {c : Code} {n : Nat} {rs : List ResultVar} {args : List Value} {w : World} {Ψ : Value → List OB → Prop} {M : View}
    (hf : P.funcs[f]? = some fn) (hb : fn.body = some c) (hn : fn.ntmps = n) (hr : fn.results = rs.toArray) (ha : Nat.ble args.length n = true)
    (hM : View.le M (View.of w))
    (h : CW ⟨P, n, w, []⟩ c (params 0 args) M [] (Ends P rs (fun v m new => m = [] ∧ Ψ v new) []) (fun _ _ _ _ => False) (Ends P rs (fun v m new => m = [] ∧ Ψ v new) [])) :
    FnC P f args w Ψ :=
  enter (mutd := []) hf hb hn hr ha hM (fun _ h => by cases h) (fun _ h => by cases h) List.nodup_nil h
/-- The end, in words: the values, the new blocks that are handed on. -/
theorem ends {P : Program} {fm : FM} {M : View} {own : List OB} {rs : List ResultVar} {Ψ : Value → List OB → Prop} {vs : List Value} (new : List OB) (h : RVal P fm M own rs vs) (hn : Pick own new) (hk : Ψ (tup vs) new) :
    Ends P rs (fun v m new => m = [] ∧ Ψ v new) [] fm M own := ⟨vs, [], new, h, by simpa using hn, rfl, rfl, hk⟩
end Go.Fw
set_option linter.unusedSimpArgs false
set_option linter.unusedVariables false
namespace Go.Fw
open Go Go.RowKit
section
variable {P : Program} {ops : Array Oper} {C : World → Prop}
def okOp (P : Program) (ops : Array Oper) (i : Nat) (K : Act → World → Prop) (a : Act) (w : World) : Prop :=
  match ops[i]? with
  | none => K a w
  | some o => if Region.wanted o (yielded ops a.tmps) then Okay P o a w (fun v w' => K (a.put o.dst v) w') else K (a.put o.dst undef) w
theorem okOp_mono {i : Nat} {K K' : Act → World → Prop} {a : Act} {w : World} (h : ∀ a w, K a w → K' a w) (hh : okOp P ops i K a w) : okOp P ops i K' a w := by
  unfold okOp at *
  split
  · rename_i ho; simp only [ho] at hh; exact h _ _ hh
  · rename_i o ho
    simp only [ho] at hh
    split
    · rename_i hw; simp only [hw, if_true] at hh; exact hh.mono fun v w' hv => h _ _ hv
    · rename_i hw; simp only [hw] at hh; exact h _ _ hh
theorem wpOp_of_okOp {i : Nat} {K : Act → World → Prop} {Q : Exit → Act → World → Prop} {a : Act} {w : World} (hh : okOp P ops i K a w) : wpOp P ops Q i K a w := by
  unfold okOp at hh
  unfold wpOp
  split
  · rename_i ho; simp only [ho] at hh; exact hh
  · rename_i o ho
    simp only [ho] at hh
    split
    · rename_i hw; simp only [hw, if_true] at hh; exact .inl (hh.wp fun v w' hv => hv)
    · rename_i hw; simp only [hw] at hh; exact hh
/-- In every world of the class the operation comes to v, and leaves the world. -/
def YC (P : Program) (ops : Array Oper) (C : World → Prop) (o : Oper) (v : Value) (a : Act) : Prop :=
  (Region.wanted o (yielded ops a.tmps) = true ∧ ∀ w, C w → (execOp a.eval o).run P w = .ok (.value v) w) ∨
  (Region.wanted o (yielded ops a.tmps) = false ∧ v = undef)
theorem YC.of_same {o : Oper} {v : Value} {a a' : Act} (hy : YC P ops C o v a) (he : execOp a'.eval o = execOp a.eval o)
    (hw : Region.wanted o (yielded ops a'.tmps) = Region.wanted o (yielded ops a.tmps)) : YC P ops C o v a' := by
  unfold YC at *
  rw [he, hw]
  exact hy
theorem YC.okOp {i : Nat} {o : Oper} {v : Value} {a : Act} (hi : ops[i]? = some o) (hy : YC P ops C o v a) {K : Act → World → Prop} {w : World} (hw : C w) (h : K (a.put o.dst v) w) : okOp P ops i K a w := by
  unfold Go.Fw.okOp
  simp only [hi]
  rcases hy with ⟨h1, h2⟩ | ⟨h1, rfl⟩
  · simp only [h1, if_true]
    unfold Okay
    rw [h2 w hw]
    exact h
  · simp only [h1, Bool.false_eq_true, if_false]; exact h
theorem okOp_put {j : Nat} {oi oj : Oper} {v : Value} (hj : ops[j]? = some oj) (hap : oi.apart ops oj = true)
    (hsi : ∀ cs b, oi.op ≠ .select cs b) (hsj : ∀ cs b, oj.op ≠ .select cs b) {K : Act → World → Prop} {a : Act} {w : World}
    (hy : YC P ops C oi v a) (h : okOp P ops j K (a.put oi.dst v) w) :
    okOp P ops j (fun a' w' => YC P ops C oi v a' ∧ K (a'.put oi.dst v) w') a w := by
  obtain ⟨h1, h2, h3⟩ := Oper.apart_spec hap
  have keep : ∀ (a : Act), YC P ops C oi v a → ∀ u, YC P ops C oi v (a.put oj.dst u) := fun a hy u =>
    hy.of_same (execOp_put oi hsi a oj.dst u h3) (wanted_put oi a oj.dst u h3)
  unfold okOp at *
  simp only [hj] at *
  rw [wanted_put oj a oi.dst v h1] at h
  split
  · rename_i hw
    simp only [hw, if_true] at h
    unfold Okay at *
    rw [execOp_put oj hsj a oi.dst v h1] at h
    generalize (execOp a.eval oj).run P w = r at *
    cases r with
    | ok n w' =>
      cases n <;> simp only at h ⊢
      case value u => exact ⟨keep a hy u, by rw [← Act.put_comm a v u h2]; exact h⟩
      case skip => exact ⟨keep a hy _, by rw [← Act.put_comm a v undef h2]; exact h⟩
      case enter f args => exact h.mono fun e w'' ⟨u, he, hk⟩ => ⟨u, he, keep a hy u, by rw [← Act.put_comm a v u h2]; exact hk⟩
    | halt x w' => exact h
  · rename_i hw
    simp only [hw] at h
    exact ⟨keep a hy _, by rw [← Act.put_comm a v undef h2]; exact h⟩
/-- The first operations (numbers below n) in whatever order; then L. -/
def AnyT (P : Program) (ops : Array Oper) (n : Nat) (L : Array Bool → Act → World → Prop) (C : World → Prop) : Nat → Array Bool → Act → World → Prop
  | 0, listed, a, w => C w ∧ L listed a w
  | f + 1, listed, a, w => C w ∧ Region.ready .any ops listed ≠ [] ∧ ∀ i ∈ Region.ready .any ops listed, i < n ∧ okOp P ops i (AnyT P ops n L C f (listed.setIfInBounds i true)) a w
theorem wpAny_of_T {n g : Nat} {L : Array Bool → Act → World → Prop} {Q : Exit → Act → World → Prop} (hL : ∀ listed a w, L listed a w → wpAny P .any ops Q g listed a w) :
    ∀ (f : Nat) (listed : Array Bool) (a : Act) (w : World), AnyT P ops n L C f listed a w → wpAny P .any ops Q (f + g) listed a w
  | 0, listed, a, w, h => by rw [Nat.zero_add]; exact hL _ _ _ h.2
  | f + 1, listed, a, w, h => by
    rw [show f + 1 + g = (f + g) + 1 by omega]
    exact ⟨fun h0 => absurd h0 h.2.1, fun i hi => wpOp_of_okOp (okOp_mono (fun a w => wpAny_of_T hL f _ a w) (h.2.2 i hi).2)⟩
/-- No operation from n on comes up while one below n has not. -/
def HeadOnly (ops : Array Oper) (n : Nat) : Prop := ∀ (listed : Array Bool) (i t : Nat), HeadInv .any ops n listed → i < n → listed.getD i true = false → n ≤ t → t ∉ Region.ready .any ops listed
theorem T_first {n i : Nat} {oi : Oper} {v : Value} {L : Array Bool → Act → World → Prop} (hi : ops[i]? = some oi) (hsel : ∀ (j : Nat) (o : Oper) cs b, ops[j]? = some o → o.op ≠ .select cs b)
    (hH : HeadOnly ops n) (hin : i < n) (hdone : ∀ listed a w, L listed a w → ∀ j ∈ Region.ready .any ops listed, n ≤ j) :
    ∀ (f : Nat) (listed : Array Bool) (a : Act) (w : World), HeadInv .any ops n listed →
      (∀ j oj, ops[j]? = some oj → j ≠ i → listed.getD j true = false → (∀ e ∈ oj.after, Region.binds .any e = true → e.on ≠ i) → oi.apart ops oj = true) →
      i ∈ Region.ready .any ops listed → YC P ops C oi v a →
      AnyT P ops n L C f (listed.setIfInBounds i true) (a.put oi.dst v) w → AnyT P ops n L C (f + 1) listed a w := by
  intro f
  induction f with
  | zero =>
    intro listed a w inv _ hr hy H
    have hun := (mem_ready.1 hr).1
    refine ⟨H.1, fun h => (by rw [h] at hr; cases hr), fun j hj => ?_⟩
    have hjn : j < n := by
      rcases Nat.lt_or_ge j n with h | h
      · exact h
      · exact absurd hj (hH listed i j inv hin hun h)
    refine ⟨hjn, ?_⟩
    by_cases hji : j = i
    · subst hji; exact hy.okOp hi H.1 H
    · have := hdone _ _ _ H.2 j (ready_mono hj hji)
      omega
  | succ f ih =>
    intro listed a w inv hfree hr hy H
    have hun := (mem_ready.1 hr).1
    refine ⟨H.1, fun h => (by rw [h] at hr; cases hr), fun j hj => ?_⟩
    have hjn : j < n := by
      rcases Nat.lt_or_ge j n with h | h
      · exact h
      · exact absurd hj (hH listed i j inv hin hun h)
    refine ⟨hjn, ?_⟩
    by_cases hji : j = i
    · subst hji; exact hy.okOp hi H.1 H
    · have h1 := (H.2.2 j (ready_mono hj hji)).2
      obtain ⟨hjun, oj, hoj, hall⟩ := mem_ready.1 hj
      have hnot : ∀ e ∈ oj.after, Region.binds .any e = true → e.on ≠ i := fun e he hb heq => by
        have h1 := hall e he hb
        rw [heq, getD_both hun] at h1
        cases h1
      have h2 := okOp_put hoj (hfree j oj hoj hji hjun hnot) (fun cs b => hsel i oi cs b hi) (fun cs b => hsel j oj cs b hoj) hy h1
      have hfree' : ∀ k ok, ops[k]? = some ok → k ≠ i → (listed.setIfInBounds j true).getD k true = false →
          (∀ e ∈ ok.after, Region.binds .any e = true → e.on ≠ i) → oi.apart ops ok = true := fun k ok hk hki hun hno => by
        refine hfree k ok hk hki ?_ hno
        by_cases hjk : j = k
        · subst hjk; exact hjun
        · rw [getD_set_ne true hjk] at hun; exact hun
      refine okOp_mono (fun a' w' h3 => ih (listed.setIfInBounds j true) a' w' (inv.set hj hjn) hfree' (ready_mono hr (Ne.symm hji)) h3.1 ?_) h2
      rw [Array.setIfInBounds_comm _ _ hji]
      exact h3.2
end
inductive PT where
  | nil
  | mv (k : Nat) (t : PT)
  | fx (k : Nat) (t : PT)
  | br (k1 : Nat) (t1 : PT) (k2 : Nat) (t2 : PT)
  | b3 (k1 : Nat) (t1 : PT) (k2 : Nat) (t2 : PT) (k3 : Nat) (t3 : PT)
  | b4 (k1 : Nat) (t1 : PT) (k2 : Nat) (t2 : PT) (k3 : Nat) (t3 : PT) (k4 : Nat) (t4 : PT)
def ptB (ops : Array Oper) (n g : Nat) : PT → Nat → Array Bool → Bool
  | .nil, m, listed => Nat.beq m 0 && Region.seqB .any ops g n listed
  | .mv k t, m, listed => match m with
    | 0 => false
    | m + 1 => (Region.ready .any ops listed).contains k && Region.free .any ops listed k && Nat.blt k n && ptB ops n g t m (listed.setIfInBounds k true)
  | .fx k t, m, listed => match m with
    | 0 => false
    | m + 1 => decide (Region.ready .any ops listed = [k]) && Nat.blt k n && ptB ops n g t m (listed.setIfInBounds k true)
  | .br k1 t1 k2 t2, m, listed => match m with
    | 0 => false
    | m + 1 => decide (Region.ready .any ops listed = [k1, k2]) && Nat.blt k1 n && Nat.blt k2 n && ptB ops n g t1 m (listed.setIfInBounds k1 true) && ptB ops n g t2 m (listed.setIfInBounds k2 true)
  | .b3 k1 t1 k2 t2 k3 t3, m, listed => match m with
    | 0 => false
    | m + 1 => decide (Region.ready .any ops listed = [k1, k2, k3]) && (Nat.blt k1 n && Nat.blt k2 n && Nat.blt k3 n) && ptB ops n g t1 m (listed.setIfInBounds k1 true) && ptB ops n g t2 m (listed.setIfInBounds k2 true) && ptB ops n g t3 m (listed.setIfInBounds k3 true)
  | .b4 k1 t1 k2 t2 k3 t3 k4 t4, m, listed => match m with
    | 0 => false
    | m + 1 => decide (Region.ready .any ops listed = [k1, k2, k3, k4]) && (Nat.blt k1 n && Nat.blt k2 n && Nat.blt k3 n && Nat.blt k4 n) && ptB ops n g t1 m (listed.setIfInBounds k1 true) && ptB ops n g t2 m (listed.setIfInBounds k2 true) && ptB ops n g t3 m (listed.setIfInBounds k3 true) && ptB ops n g t4 m (listed.setIfInBounds k4 true)
def headB (ops : Array Oper) (n : Nat) : Bool :=
  Region.noSelect ops && (Nat.beq n ops.size || (Nat.blt n ops.size && Region.sinkB .any ops n && Region.chainB .any ops n))
def drawB (l : List Oper) (n : Nat) (t : PT) : Bool :=
  headB l.toArray n && Nat.ble n l.length && ptB l.toArray n (l.length - n) t n (Array.replicate l.length false)
theorem headOnly_of {ops : Array Oper} {n : Nat} (h : headB ops n = true) : HeadOnly ops n := by
  intro listed i t inv hi hun ht hr
  unfold headB at h
  simp only [Bool.and_eq_true, Bool.or_eq_true] at h
  rcases h.2 with h1 | ⟨⟨h1, h2⟩, h3⟩
  · have := Nat.eq_of_beq_eq_true h1
    obtain ⟨_, o, ho, _⟩ := mem_ready.1 hr
    have := (Array.getElem?_eq_some_iff.1 ho).1
    omega
  · have hn : n < ops.size := by simp [Nat.blt] at h1; omega
    exact tail_waits h2 h3 hn inv _ i rfl hi hun t ht hr
/-- What is left when the head is through. -/
def Lfin (C : Pr) (l : List Oper) (n : Nat) (K : SP) : Array Bool → Act → World → Prop := fun listed a w =>
  Region.seqB .any l.toArray (l.length - n) n listed = true ∧ lst C.P l.toArray (real C K) (l.drop n) a w
/-- The state knows all that the class knows. -/
structure Wk (M0 : View) (own0 : List OB) (M : View) (own : List OB) : Prop where
  vw : View.le M0 M
  ow : Pick own own0
theorem Wk.refl (M : View) (own : List OB) : Wk M own M own := ⟨View.le.refl M, Pick.refl⟩
theorem Wk.st {wE : World} {mu : List Nat} {w : World} {M0 M : View} {own0 own : List OB} (h : Wk M0 own0 M own) (hs : St wE mu M own w) : St wE mu M0 own0 w := (hs.pick h.ow).weaken h.vw (List.Sublist.refl _)
/-- 'M0', 'own0': what holds of all worlds till the head is through; the operations that may be taken first read there. -/
def OD (C : Pr) (l : List Oper) (n : Nat) (t : PT) (M0 : View) (own0 : List OB) (fm : FM) (M : View) (own : List OB) (K : SP) : Prop :=
  ∀ (m : Nat) (listed : Array Bool) (a : Act) (w : World), headB l.toArray n = true → ptB l.toArray n (l.length - n) t m listed = true → HeadInv .any l.toArray n listed → FrOk C.n a fm → St C.wE C.mu M own w →
    AnyT C.P l.toArray n (Lfin C l n K) (fun w => St C.wE C.mu M0 own0 w) m listed a w
section
variable {C : Pr} {l : List Oper} {n : Nat} {fm : FM} {M M0 : View} {own own0 : List OB} {K : SP} {k : Nat} {t : PT}
theorem Lfin_done {listed : Array Bool} {a : Act} {w : World} (h : Lfin C l n K listed a w) : ∀ j ∈ Region.ready .any l.toArray listed, n ≤ j := seqB_ready h.1
theorem od_nil (hw : Wk M0 own0 M own) (h : OL C l.toArray (l.drop n) fm M own K) : OD C l n .nil M0 own0 fm M own K := by
  intro m listed a w _ hp inv hf hs
  simp only [ptB, Bool.and_eq_true] at hp
  have := Nat.eq_of_beq_eq_true hp.1
  subst this
  exact ⟨hw.st hs, hp.2, h a w hf hs⟩
theorem od_mv0 {o : Oper} {v : Value} {fm' : FM} (hk : l[k]? = some o) (hy : ∀ a, FrOk C.n a fm → YC C.P l.toArray (fun w => St C.wE C.mu M0 own0 w) o v a) (hput : ∀ a, FrOk C.n a fm → FrOk C.n (a.put o.dst v) fm') (h : OD C l n t M0 own0 fm' M own K) : OD C l n (.mv k t) M0 own0 fm M own K := by
  intro m listed a w hH hp inv hf hs
  cases m with
  | zero => simp [ptB] at hp
  | succ m =>
    simp only [ptB, Bool.and_eq_true] at hp
    obtain ⟨⟨⟨hr, hfr⟩, hkn⟩, hp⟩ := hp
    have hk' : l.toArray[k]? = some o := by simpa using hk
    have hkn' : k < n := by simp [Nat.blt] at hkn; omega
    have hr' : k ∈ Region.ready .any l.toArray listed := by simpa using hr
    have hsel : Region.noSelect l.toArray = true := by unfold headB at hH; simp only [Bool.and_eq_true] at hH; exact hH.1
    exact T_first hk' (Region.noSelect_spec hsel) (headOnly_of hH) hkn' (fun _ _ _ hL => Lfin_done hL) m listed a w inv (Region.free_spec hk' hfr) hr' (hy a hf)
      (h m _ _ w hH hp (inv.set hr' hkn') (hput a hf) hs)
theorem od_mv {d : Nat} {op : Op} {ty : TypeId} {pos : String} {af : Array Edge} {v : Value} (hk : l[k]? = some ⟨some d, op, ty, pos, af, none⟩) (hd : Nat.blt d C.n = true) (hp : Pur C ⟨some d, op, ty, pos, af, none⟩ fm M0 own0 v) (h : OD C l n t M0 own0 ((d, v) :: fm) M own K) : OD C l n (.mv k t) M0 own0 fm M own K :=
  od_mv0 hk (fun a hf => .inl ⟨by simp [Region.wanted], fun w hs => hp a w hf hs⟩) (fun a hf => hf.put hd v) h
theorem od_cmp {d : Nat} {op : Op} {ty : TypeId} {pos : String} {af : Array Edge} {p : Prop} (hk : l[k]? = some ⟨some d, op, ty, pos, af, none⟩) (hd : Nat.blt d C.n = true) (hp : Cmp C ⟨some d, op, ty, pos, af, none⟩ fm M0 own0 p) (h1 : ∀ _ : p, OD C l n t M0 own0 ((d, .bool true) :: fm) M own K) (h2 : ∀ _ : ¬ p, OD C l n t M0 own0 ((d, .bool false) :: fm) M own K) : OD C l n (.mv k t) M0 own0 fm M own K := by
  by_cases h : p
  · exact od_mv hk hd (hp.yes h) (h1 h)
  · exact od_mv hk hd (hp.no h) (h2 h)
theorem od_gskip {d : Nat} {op : Op} {ty : TypeId} {pos : String} {af : Array Edge} {j s : Nat} {want b : Bool} (hk : l[k]? = some ⟨some d, op, ty, pos, af, some (j, want)⟩) (hj : gdst l.toArray j = some s) (hg : fm.get s = some (.bool b)) (hb : b = !want) (hd : Nat.blt d C.n = true) (h : OD C l n t M0 own0 ((d, undef) :: fm) M own K) : OD C l n (.mv k t) M0 own0 fm M own K :=
  od_mv0 hk (fun a hf => .inr ⟨by subst hb; simp [Region.wanted, yielded_of hf hj hg], rfl⟩) (fun a hf => hf.put hd undef) h
theorem od_gmv {d : Nat} {op : Op} {ty : TypeId} {pos : String} {af : Array Edge} {j s : Nat} {want b : Bool} {v : Value} (hk : l[k]? = some ⟨some d, op, ty, pos, af, some (j, want)⟩) (hj : gdst l.toArray j = some s) (hg : fm.get s = some (.bool b)) (hb : b = want) (hd : Nat.blt d C.n = true) (hp : Pur C ⟨some d, op, ty, pos, af, some (j, want)⟩ fm M0 own0 v) (h : OD C l n t M0 own0 ((d, v) :: fm) M own K) : OD C l n (.mv k t) M0 own0 fm M own K :=
  od_mv0 hk (fun a hf => .inl ⟨by subst hb; simp [Region.wanted, yielded_of hf hj hg], fun w hs => hp a w hf hs⟩) (fun a hf => hf.put hd v) h
/-- An operation that is walked as it stands (not taken first). -/
def FX (C : Pr) (l : List Oper) (n k : Nat) (t : PT) (M0 : View) (own0 : List OB) (fm : FM) (M : View) (own : List OB) (K : SP) : Prop :=
  ∀ (m : Nat) (listed : Array Bool) (a : Act) (w : World), headB l.toArray n = true → ptB l.toArray n (l.length - n) t m (listed.setIfInBounds k true) = true → HeadInv .any l.toArray n (listed.setIfInBounds k true) → FrOk C.n a fm → St C.wE C.mu M own w →
    okOp C.P l.toArray k (AnyT C.P l.toArray n (Lfin C l n K) (fun w => St C.wE C.mu M0 own0 w) m (listed.setIfInBounds k true)) a w
theorem od_fx (hw : Wk M0 own0 M own) (h : FX C l n k t M0 own0 fm M own K) : OD C l n (.fx k t) M0 own0 fm M own K := by
  intro m listed a w hH hp inv hf hs
  cases m with
  | zero => simp [ptB] at hp
  | succ m =>
    simp only [ptB, Bool.and_eq_true, decide_eq_true_eq] at hp
    obtain ⟨⟨hr, hkn⟩, hp⟩ := hp
    have hkn' : k < n := by simp [Nat.blt] at hkn; omega
    refine ⟨hw.st hs, by rw [hr]; simp, fun i hi => ?_⟩
    have hik : i = k := by rw [hr] at hi; simpa using hi
    subst hik
    exact ⟨hkn', h m listed a w hH hp (inv.set hi hkn') hf hs⟩
theorem fx_step {o : Oper} (hk : l[k]? = some o) (hw : ∀ a, FrOk C.n a fm → Region.wanted o (yielded l.toArray a.tmps) = true) {put : Value → FM} (hput : ∀ a v, FrOk C.n a fm → FrOk C.n (a.put o.dst v) (put v))
    (h : Stp C o fm M own (fun v M' own' => OD C l n t M0 own0 (put v) M' own' K)) : FX C l n k t M0 own0 fm M own K := by
  intro m listed a w hH hp inv hf hs
  have hk' : l.toArray[k]? = some o := by simpa using hk
  unfold okOp
  simp only [hk', hw a hf, if_true]
  refine (h a w hf hs).mono fun v w' ⟨M', own', hs', hod⟩ => ?_
  exact hod m _ _ w' hH hp inv (hput a v hf) hs'
theorem fx_val {d : Nat} {op : Op} {ty : TypeId} {pos : String} {af : Array Edge} (hk : l[k]? = some ⟨some d, op, ty, pos, af, none⟩) (hd : Nat.blt d C.n = true) (h : Stp C ⟨some d, op, ty, pos, af, none⟩ fm M own (fun v M' own' => OD C l n t M0 own0 ((d, v) :: fm) M' own' K)) : FX C l n k t M0 own0 fm M own K :=
  fx_step hk (fun _ _ => by simp [Region.wanted]) (fun _ v hf => hf.put hd v) h
theorem fx_eff {op : Op} {ty : TypeId} {pos : String} {af : Array Edge} (hk : l[k]? = some ⟨none, op, ty, pos, af, none⟩) (h : Stp C ⟨none, op, ty, pos, af, none⟩ fm M own (fun _ M' own' => OD C l n t M0 own0 fm M' own' K)) : FX C l n k t M0 own0 fm M own K :=
  fx_step (put := fun _ => fm) hk (fun _ _ => by simp [Region.wanted]) (fun _ _ hf => hf) h
theorem fx_gval {d : Nat} {op : Op} {ty : TypeId} {pos : String} {af : Array Edge} {j s : Nat} {want b : Bool} (hk : l[k]? = some ⟨some d, op, ty, pos, af, some (j, want)⟩) (hj : gdst l.toArray j = some s) (hg : fm.get s = some (.bool b)) (hb : b = want) (hd : Nat.blt d C.n = true)
    (h : Stp C ⟨some d, op, ty, pos, af, some (j, want)⟩ fm M own (fun v M' own' => OD C l n t M0 own0 ((d, v) :: fm) M' own' K)) : FX C l n k t M0 own0 fm M own K :=
  fx_step hk (fun a hf => by subst hb; simp [Region.wanted, yielded_of hf hj hg]) (fun _ v hf => hf.put hd v) h
/-- A guarded operation of the forced kind that is passed over. -/
theorem fx_gskip {d : Nat} {op : Op} {ty : TypeId} {pos : String} {af : Array Edge} {j s : Nat} {want b : Bool} (hk : l[k]? = some ⟨some d, op, ty, pos, af, some (j, want)⟩) (hj : gdst l.toArray j = some s) (hg : fm.get s = some (.bool b)) (hb : b = !want) (hd : Nat.blt d C.n = true) (h : OD C l n t M0 own0 ((d, undef) :: fm) M own K) : FX C l n k t M0 own0 fm M own K := by
  intro m listed a w hH hp inv hf hs
  have hk' : l.toArray[k]? = some ⟨some d, op, ty, pos, af, some (j, want)⟩ := by simpa using hk
  unfold okOp
  simp only [hk']
  rw [if_neg (by subst hb; simp [Region.wanted, yielded_of hf hj hg])]
  exact h m _ _ w hH hp inv (hf.put hd undef) hs
theorem cw_draw {id : Nat} {X : Nat → SP} {R : SP} (n : Nat) (t : PT) (hm : C.P.follows .mixedOrders = true) (hB : drawB l n t = true) (h : OD C l n t M own fm M own K) : CW C (.region id l.toArray true) fm M own K X R := by
  intro a w hf hs
  unfold drawB at hB
  simp only [Bool.and_eq_true] at hB
  obtain ⟨⟨hH, hn⟩, hp⟩ := hB
  have hn' : n ≤ l.length := by simpa [Nat.ble_eq] using hn
  have inv0 : HeadInv .any l.toArray n (Array.replicate l.length false) :=
    ⟨by simp, fun j oj _ hl => (by rw [getD_replicate_false] at hl; cases hl), fun t _ ht => getD_in (by simpa using ht) (getD_replicate_false _ _)⟩
  have H := h n (Array.replicate l.length false) a { w with drawn := w.drawn + 1 } hH hp inv0 hf hs.drew
  refine wp_region_any hm ?_
  have := wpAny_of_T (Q := post C K X R) (g := l.length - n) (fun listed a w hL => by
    have := wpAny_of_seq (md := .any) (Q' := post C K X R) (l.drop n) n listed a w (fun j => by simp [List.getElem?_drop]) (by rw [List.length_drop]; exact hL.1) (wpList_of_lst (fun _ _ h => h) _ _ _ hL.2)
    rwa [List.length_drop] at this) _ _ _ _ H
  rw [show n + (l.length - n) = l.length by omega] at this
  simpa using this
/-- The same; what all worlds of the head hold is said. -/
theorem cw_drawW {id : Nat} {X : Nat → SP} {R : SP} (n : Nat) (t : PT) (hm : C.P.follows .mixedOrders = true) (hB : drawB l n t = true) (hw : Wk M0 own0 M own) (h : OD C l n t M0 own0 fm M own K) : CW C (.region id l.toArray true) fm M own K X R := by
  intro a w hf hs
  unfold drawB at hB
  simp only [Bool.and_eq_true] at hB
  obtain ⟨⟨hH, hn⟩, hp⟩ := hB
  have hn' : n ≤ l.length := by simpa [Nat.ble_eq] using hn
  have inv0 : HeadInv .any l.toArray n (Array.replicate l.length false) :=
    ⟨by simp, fun j oj _ hl => (by rw [getD_replicate_false] at hl; cases hl), fun t _ ht => getD_in (by simpa using ht) (getD_replicate_false _ _)⟩
  have H := h n (Array.replicate l.length false) a { w with drawn := w.drawn + 1 } hH hp inv0 hf hs.drew
  refine wp_region_any hm ?_
  have := wpAny_of_T (Q := post C K X R) (g := l.length - n) (fun listed a w hL => by
    have := wpAny_of_seq (md := .any) (Q' := post C K X R) (l.drop n) n listed a w (fun j => by simp [List.getElem?_drop]) (by rw [List.length_drop]; exact hL.1) (wpList_of_lst (fun _ _ h => h) _ _ _ hL.2)
    rwa [List.length_drop] at this) _ _ _ _ H
  rw [show n + (l.length - n) = l.length by omega] at this
  simpa using this
section
variable {l0 : Array Oper} {rest : List Oper} {d : Nat} {ty : TypeId} {pos : String} {af : Array Edge} {v : Value} {x : Operand}
theorem ol_mv (hd : Nat.blt d C.n = true) (hx : ev fm x = some v) (h : OL C l0 rest ((d, v) :: fm) M own K) : OL C l0 (⟨some d, .move x, ty, pos, af, none⟩ :: rest) fm M own K := ol_val hd (stp_pur (s_move hx) h)
theorem ol_as (hd : Nat.blt d C.n = true) (hx : ev fm x = some v) (h : OL C l0 rest ((d, v) :: fm) M own K) : OL C l0 (⟨some d, .assign x, ty, pos, af, none⟩ :: rest) fm M own K := ol_val hd (stp_pur (s_assign hx) h)
theorem ol_fa {s i off b o r : Nat} (hd : Nat.blt d C.n = true) (hx : ev fm x = some (.pointer (some ⟨b, o, none⟩))) (hf : fieldB C.P s i = some off) (hr : o + off = r) (h : OL C l0 rest ((d, .pointer (some ⟨b, r, none⟩)) :: fm) M own K) : OL C l0 (⟨some d, .fieldAddr s x i, ty, pos, af, none⟩ :: rest) fm M own K := ol_val hd (stp_pur (s_fieldAddr' hx hf hr) h)
theorem ol_ld {t b off : Nat} (hd : Nat.blt d C.n = true) (hx : ev fm x = some (.pointer (some ⟨b, off, none⟩))) (ht : aggB C.P t = some false) (hr : RdN M own b off 1 [v]) (h : OL C l0 rest ((d, v) :: fm) M own K) : OL C l0 (⟨some d, .load t x, ty, pos, af, none⟩ :: rest) fm M own K := ol_val hd (stp_pur (s_load1 hx ht hr) h)
theorem ol_ldN {t b off n : Nat} {vs : List Value} (hd : Nat.blt d C.n = true) (hx : ev fm x = some (.pointer (some ⟨b, off, none⟩))) (ht : aggB C.P t = some true) (hn : sizeB C.P t = some n) (hr : RdN M own b off n vs) (h : OL C l0 rest ((d, .agg vs.toArray) :: fm) M own K) : OL C l0 (⟨some d, .load t x, ty, pos, af, none⟩ :: rest) fm M own K := ol_val hd (stp_pur (s_loadN hx ht hn hr) h)
theorem ol_ex {vs : List Value} {i : Nat} (hd : Nat.blt d C.n = true) (hx : ev fm x = some (.tuple vs.toArray)) (hi : nthV vs i = some v) (h : OL C l0 rest ((d, v) :: fm) M own K) : OL C l0 (⟨some d, .extract x i, ty, pos, af, none⟩ :: rest) fm M own K := ol_val hd (stp_pur (s_extract hx hi) h)
end
/-- (the region's number, the operation's number: said) -/
theorem cw_region_id {l : List Oper} {X : Nat → SP} {R : SP} (id : Nat) (h : OL C l.toArray l fm M own K) : CW C (.region id l.toArray false) fm M own K X R := cw_region h
end
end Go.Fw
