/-
  The program logic, fourth part: regions whose order is drawn. Operations that only read may be taken first; of the others the order is
  forced, or both orders are walked.
-/
import Derived.Test.YtkbbbflojebfgaaDoorFw3
set_option linter.unusedSimpArgs false
set_option linter.unusedVariables false
namespace Go.Fw
open Go Go.RowKit

section
variable {P : Program} {ops : Array Oper} {C : World → Prop}

def okOp (P : Program) (ops : Array Oper) (i : Nat) (K : Act → World → Prop) (a : Act) (w : World) : Prop :=
  match ops[i]? with
  | none => K a w
  | some o => if Region.wanted o (yielded ops a.tmps) then Okay P o a w (fun v w' => K (a.put o.dst v) w') else K (a.put o.dst undef) w

theorem okOp_mono {i : Nat} {K K' : Act → World → Prop} {a : Act} {w : World} (h : ∀ a w, K a w → K' a w) (hh : okOp P ops i K a w) : okOp P ops i K' a w := by
  unfold okOp at *
  split
  · rename_i ho; simp only [ho] at hh; exact h _ _ hh
  · rename_i o ho
    simp only [ho] at hh
    split
    · rename_i hw; simp only [hw, if_true] at hh; exact hh.mono fun v w' hv => h _ _ hv
    · rename_i hw; simp only [hw] at hh; exact h _ _ hh

theorem wpOp_of_okOp {i : Nat} {K : Act → World → Prop} {Q : Exit → Act → World → Prop} {a : Act} {w : World} (hh : okOp P ops i K a w) : wpOp P ops Q i K a w := by
  unfold okOp at hh
  unfold wpOp
  split
  · rename_i ho; simp only [ho] at hh; exact hh
  · rename_i o ho
    simp only [ho] at hh
    split
    · rename_i hw; simp only [hw, if_true] at hh; exact .inl (hh.wp fun v w' hv => hv)
    · rename_i hw; simp only [hw] at hh; exact hh

/-- In every world of the class the operation comes to v, and leaves the world. -/
def YC (P : Program) (ops : Array Oper) (C : World → Prop) (o : Oper) (v : Value) (a : Act) : Prop :=
  (Region.wanted o (yielded ops a.tmps) = true ∧ ∀ w, C w → (execOp a.eval o).run P w = .ok (.value v) w) ∨
  (Region.wanted o (yielded ops a.tmps) = false ∧ v = undef)

theorem YC.of_same {o : Oper} {v : Value} {a a' : Act} (hy : YC P ops C o v a) (he : execOp a'.eval o = execOp a.eval o)
    (hw : Region.wanted o (yielded ops a'.tmps) = Region.wanted o (yielded ops a.tmps)) : YC P ops C o v a' := by
  unfold YC at *
  rw [he, hw]
  exact hy

theorem YC.okOp {i : Nat} {o : Oper} {v : Value} {a : Act} (hi : ops[i]? = some o) (hy : YC P ops C o v a) {K : Act → World → Prop} {w : World} (hw : C w) (h : K (a.put o.dst v) w) : okOp P ops i K a w := by
  unfold Go.Fw.okOp
  simp only [hi]
  rcases hy with ⟨h1, h2⟩ | ⟨h1, rfl⟩
  · simp only [h1, if_true]
    unfold Okay
    rw [h2 w hw]
    exact h
  · simp only [h1, Bool.false_eq_true, if_false]; exact h

theorem okOp_put {j : Nat} {oi oj : Oper} {v : Value} (hj : ops[j]? = some oj) (hap : oi.apart ops oj = true)
    (hsi : ∀ cs b, oi.op ≠ .select cs b) (hsj : ∀ cs b, oj.op ≠ .select cs b) {K : Act → World → Prop} {a : Act} {w : World}
    (hy : YC P ops C oi v a) (h : okOp P ops j K (a.put oi.dst v) w) :
    okOp P ops j (fun a' w' => YC P ops C oi v a' ∧ K (a'.put oi.dst v) w') a w := by
  obtain ⟨h1, h2, h3⟩ := Oper.apart_spec hap
  have keep : ∀ (a : Act), YC P ops C oi v a → ∀ u, YC P ops C oi v (a.put oj.dst u) := fun a hy u =>
    hy.of_same (execOp_put oi hsi a oj.dst u h3) (wanted_put oi a oj.dst u h3)
  unfold okOp at *
  simp only [hj] at *
  rw [wanted_put oj a oi.dst v h1] at h
  split
  · rename_i hw
    simp only [hw, if_true] at h
    unfold Okay at *
    rw [execOp_put oj hsj a oi.dst v h1] at h
    generalize (execOp a.eval oj).run P w = r at *
    cases r with
    | ok n w' =>
      cases n <;> simp only at h ⊢
      case value u => exact ⟨keep a hy u, by rw [← Act.put_comm a v u h2]; exact h⟩
      case skip => exact ⟨keep a hy _, by rw [← Act.put_comm a v undef h2]; exact h⟩
      case enter f args => exact h.mono fun e w'' ⟨u, he, hk⟩ => ⟨u, he, keep a hy u, by rw [← Act.put_comm a v u h2]; exact hk⟩
    | halt x w' => exact h
  · rename_i hw
    simp only [hw] at h
    exact ⟨keep a hy _, by rw [← Act.put_comm a v undef h2]; exact h⟩

/-- The first operations (numbers below n) in whatever order; then L. -/
def AnyT (P : Program) (ops : Array Oper) (n : Nat) (L : Array Bool → Act → World → Prop) (C : World → Prop) : Nat → Array Bool → Act → World → Prop
  | 0, listed, a, w => C w ∧ L listed a w
  | f + 1, listed, a, w => C w ∧ Region.ready .any ops listed ≠ [] ∧ ∀ i ∈ Region.ready .any ops listed, i < n ∧ okOp P ops i (AnyT P ops n L C f (listed.setIfInBounds i true)) a w

theorem AnyT.mono {n : Nat} {L : Array Bool → Act → World → Prop} {C C' : World → Prop} (h : ∀ w, C' w → C w) : ∀ (f : Nat) (listed : Array Bool) (a : Act) (w : World), AnyT P ops n L C' f listed a w → AnyT P ops n L C f listed a w
  | 0, _, _, _, hh => ⟨h _ hh.1, hh.2⟩
  | f + 1, _, _, _, hh => ⟨h _ hh.1, hh.2.1, fun i hi => ⟨(hh.2.2 i hi).1, okOp_mono (fun a w => AnyT.mono h f _ a w) (hh.2.2 i hi).2⟩⟩

theorem AnyT.cls {n : Nat} {L : Array Bool → Act → World → Prop} {C : World → Prop} {f : Nat} {listed : Array Bool} {a : Act} {w : World} (h : AnyT P ops n L C f listed a w) : C w := by
  cases f <;> exact h.1

theorem wpAny_of_T {n g : Nat} {L : Array Bool → Act → World → Prop} {Q : Exit → Act → World → Prop} (hL : ∀ listed a w, L listed a w → wpAny P .any ops Q g listed a w) :
    ∀ (f : Nat) (listed : Array Bool) (a : Act) (w : World), AnyT P ops n L C f listed a w → wpAny P .any ops Q (f + g) listed a w
  | 0, listed, a, w, h => by rw [Nat.zero_add]; exact hL _ _ _ h.2
  | f + 1, listed, a, w, h => by
    rw [show f + 1 + g = (f + g) + 1 by omega]
    exact ⟨fun h0 => absurd h0 h.2.1, fun i hi => wpOp_of_okOp (okOp_mono (fun a w => wpAny_of_T hL f _ a w) (h.2.2 i hi).2)⟩

/-- No operation from n on comes up while one below n has not. -/
def HeadOnly (ops : Array Oper) (n : Nat) : Prop := ∀ (listed : Array Bool) (i t : Nat), HeadInv .any ops n listed → i < n → listed.getD i true = false → n ≤ t → t ∉ Region.ready .any ops listed

theorem T_first {n i : Nat} {oi : Oper} {v : Value} {L : Array Bool → Act → World → Prop} (hi : ops[i]? = some oi) (hsel : ∀ (j : Nat) (o : Oper) cs b, ops[j]? = some o → o.op ≠ .select cs b)
    (hH : HeadOnly ops n) (hin : i < n) (hdone : ∀ listed a w, L listed a w → ∀ j ∈ Region.ready .any ops listed, n ≤ j) :
    ∀ (f : Nat) (listed : Array Bool) (a : Act) (w : World), HeadInv .any ops n listed →
      (∀ j oj, ops[j]? = some oj → j ≠ i → listed.getD j true = false → (∀ e ∈ oj.after, Region.binds .any e = true → e.on ≠ i) → oi.apart ops oj = true) →
      i ∈ Region.ready .any ops listed → YC P ops C oi v a →
      AnyT P ops n L C f (listed.setIfInBounds i true) (a.put oi.dst v) w → AnyT P ops n L C (f + 1) listed a w := by
  intro f
  induction f with
  | zero =>
    intro listed a w inv _ hr hy H
    have hun := (mem_ready.1 hr).1
    refine ⟨H.1, fun h => (by rw [h] at hr; cases hr), fun j hj => ?_⟩
    have hjn : j < n := by
      rcases Nat.lt_or_ge j n with h | h
      · exact h
      · exact absurd hj (hH listed i j inv hin hun h)
    refine ⟨hjn, ?_⟩
    by_cases hji : j = i
    · subst hji; exact hy.okOp hi H.1 H
    · have := hdone _ _ _ H.2 j (ready_mono hj hji)
      omega
  | succ f ih =>
    intro listed a w inv hfree hr hy H
    have hun := (mem_ready.1 hr).1
    refine ⟨H.1, fun h => (by rw [h] at hr; cases hr), fun j hj => ?_⟩
    have hjn : j < n := by
      rcases Nat.lt_or_ge j n with h | h
      · exact h
      · exact absurd hj (hH listed i j inv hin hun h)
    refine ⟨hjn, ?_⟩
    by_cases hji : j = i
    · subst hji; exact hy.okOp hi H.1 H
    · have h1 := (H.2.2 j (ready_mono hj hji)).2
      obtain ⟨hjun, oj, hoj, hall⟩ := mem_ready.1 hj
      have hnot : ∀ e ∈ oj.after, Region.binds .any e = true → e.on ≠ i := fun e he hb heq => by
        have h1 := hall e he hb
        rw [heq, getD_both hun] at h1
        cases h1
      have h2 := okOp_put hoj (hfree j oj hoj hji hjun hnot) (fun cs b => hsel i oi cs b hi) (fun cs b => hsel j oj cs b hoj) hy h1
      have hfree' : ∀ k ok, ops[k]? = some ok → k ≠ i → (listed.setIfInBounds j true).getD k true = false →
          (∀ e ∈ ok.after, Region.binds .any e = true → e.on ≠ i) → oi.apart ops ok = true := fun k ok hk hki hun hno => by
        refine hfree k ok hk hki ?_ hno
        by_cases hjk : j = k
        · subst hjk; exact hjun
        · rw [getD_set_ne true hjk] at hun; exact hun
      refine okOp_mono (fun a' w' h3 => ih (listed.setIfInBounds j true) a' w' (inv.set hj hjn) hfree' (ready_mono hr (Ne.symm hji)) h3.1 ?_) h2
      rw [Array.setIfInBounds_comm _ _ hji]
      exact h3.2
end

/-! ### Orders that serve for all -/

inductive PT where
  | nil
  | mv (k : Nat) (t : PT)
  | fx (k : Nat) (t : PT)
  | br (k1 : Nat) (t1 : PT) (k2 : Nat) (t2 : PT)
  | b3 (k1 : Nat) (t1 : PT) (k2 : Nat) (t2 : PT) (k3 : Nat) (t3 : PT)
  | b4 (k1 : Nat) (t1 : PT) (k2 : Nat) (t2 : PT) (k3 : Nat) (t3 : PT) (k4 : Nat) (t4 : PT)

def ptB (ops : Array Oper) (n g : Nat) : PT → Nat → Array Bool → Bool
  | .nil, m, listed => Nat.beq m 0 && Region.seqB .any ops g n listed
  | .mv k t, m, listed => match m with
    | 0 => false
    | m + 1 => (Region.ready .any ops listed).contains k && Region.free .any ops listed k && Nat.blt k n && ptB ops n g t m (listed.setIfInBounds k true)
  | .fx k t, m, listed => match m with
    | 0 => false
    | m + 1 => decide (Region.ready .any ops listed = [k]) && Nat.blt k n && ptB ops n g t m (listed.setIfInBounds k true)
  | .br k1 t1 k2 t2, m, listed => match m with
    | 0 => false
    | m + 1 => decide (Region.ready .any ops listed = [k1, k2]) && Nat.blt k1 n && Nat.blt k2 n && ptB ops n g t1 m (listed.setIfInBounds k1 true) && ptB ops n g t2 m (listed.setIfInBounds k2 true)
  | .b3 k1 t1 k2 t2 k3 t3, m, listed => match m with
    | 0 => false
    | m + 1 => decide (Region.ready .any ops listed = [k1, k2, k3]) && (Nat.blt k1 n && Nat.blt k2 n && Nat.blt k3 n) && ptB ops n g t1 m (listed.setIfInBounds k1 true) && ptB ops n g t2 m (listed.setIfInBounds k2 true) && ptB ops n g t3 m (listed.setIfInBounds k3 true)
  | .b4 k1 t1 k2 t2 k3 t3 k4 t4, m, listed => match m with
    | 0 => false
    | m + 1 => decide (Region.ready .any ops listed = [k1, k2, k3, k4]) && (Nat.blt k1 n && Nat.blt k2 n && Nat.blt k3 n && Nat.blt k4 n) && ptB ops n g t1 m (listed.setIfInBounds k1 true) && ptB ops n g t2 m (listed.setIfInBounds k2 true) && ptB ops n g t3 m (listed.setIfInBounds k3 true) && ptB ops n g t4 m (listed.setIfInBounds k4 true)

def headB (ops : Array Oper) (n : Nat) : Bool :=
  Region.noSelect ops && (Nat.beq n ops.size || (Nat.blt n ops.size && Region.sinkB .any ops n && Region.chainB .any ops n))

def drawB (l : List Oper) (n : Nat) (t : PT) : Bool :=
  headB l.toArray n && Nat.ble n l.length && ptB l.toArray n (l.length - n) t n (Array.replicate l.length false)

theorem headOnly_of {ops : Array Oper} {n : Nat} (h : headB ops n = true) : HeadOnly ops n := by
  intro listed i t inv hi hun ht hr
  unfold headB at h
  simp only [Bool.and_eq_true, Bool.or_eq_true] at h
  rcases h.2 with h1 | ⟨⟨h1, h2⟩, h3⟩
  · have := Nat.eq_of_beq_eq_true h1
    obtain ⟨_, o, ho, _⟩ := mem_ready.1 hr
    have := (Array.getElem?_eq_some_iff.1 ho).1
    omega
  · have hn : n < ops.size := by simp [Nat.blt] at h1; omega
    exact tail_waits h2 h3 hn inv _ i rfl hi hun t ht hr

/-- What is left when the head is through. -/
def Lfin (C : Pr) (l : List Oper) (n : Nat) (K : SP) : Array Bool → Act → World → Prop := fun listed a w =>
  Region.seqB .any l.toArray (l.length - n) n listed = true ∧ lst C.P l.toArray (real C K) (l.drop n) a w

/-- The state knows all that the class knows. -/
structure Wk (M0 : View) (own0 : List OB) (M : View) (own : List OB) : Prop where
  vw : View.le M0 M
  ow : Pick own own0
theorem Wk.refl (M : View) (own : List OB) : Wk M own M own := ⟨View.le.refl M, Pick.refl⟩
theorem Wk.st {wE : World} {mu : List Nat} {w : World} {M0 M : View} {own0 own : List OB} (h : Wk M0 own0 M own) (hs : St wE mu M own w) : St wE mu M0 own0 w := (hs.pick h.ow).weaken h.vw (List.Sublist.refl _)

/-- 'M0', 'own0': what holds of all worlds till the head is through; the operations that may be taken first read there. -/
def OD (C : Pr) (l : List Oper) (n : Nat) (t : PT) (M0 : View) (own0 : List OB) (fm : FM) (M : View) (own : List OB) (K : SP) : Prop :=
  ∀ (m : Nat) (listed : Array Bool) (a : Act) (w : World), headB l.toArray n = true → ptB l.toArray n (l.length - n) t m listed = true → HeadInv .any l.toArray n listed → FrOk C.n a fm → St C.wE C.mu M own w →
    AnyT C.P l.toArray n (Lfin C l n K) (fun w => St C.wE C.mu M0 own0 w) m listed a w

section
variable {C : Pr} {l : List Oper} {n : Nat} {fm : FM} {M M0 : View} {own own0 : List OB} {K : SP} {k : Nat} {t : PT}

theorem Lfin_done {listed : Array Bool} {a : Act} {w : World} (h : Lfin C l n K listed a w) : ∀ j ∈ Region.ready .any l.toArray listed, n ≤ j := seqB_ready h.1

theorem od_nil (hw : Wk M0 own0 M own) (h : OL C l.toArray (l.drop n) fm M own K) : OD C l n .nil M0 own0 fm M own K := by
  intro m listed a w _ hp inv hf hs
  simp only [ptB, Bool.and_eq_true] at hp
  have := Nat.eq_of_beq_eq_true hp.1
  subst this
  exact ⟨hw.st hs, hp.2, h a w hf hs⟩

theorem od_mv0 {o : Oper} {v : Value} {fm' : FM} (hk : l[k]? = some o) (hy : ∀ a, FrOk C.n a fm → YC C.P l.toArray (fun w => St C.wE C.mu M0 own0 w) o v a) (hput : ∀ a, FrOk C.n a fm → FrOk C.n (a.put o.dst v) fm') (h : OD C l n t M0 own0 fm' M own K) : OD C l n (.mv k t) M0 own0 fm M own K := by
  intro m listed a w hH hp inv hf hs
  cases m with
  | zero => simp [ptB] at hp
  | succ m =>
    simp only [ptB, Bool.and_eq_true] at hp
    obtain ⟨⟨⟨hr, hfr⟩, hkn⟩, hp⟩ := hp
    have hk' : l.toArray[k]? = some o := by simpa using hk
    have hkn' : k < n := by simp [Nat.blt] at hkn; omega
    have hr' : k ∈ Region.ready .any l.toArray listed := by simpa using hr
    have hsel : Region.noSelect l.toArray = true := by unfold headB at hH; simp only [Bool.and_eq_true] at hH; exact hH.1
    exact T_first hk' (Region.noSelect_spec hsel) (headOnly_of hH) hkn' (fun _ _ _ hL => Lfin_done hL) m listed a w inv (Region.free_spec hk' hfr) hr' (hy a hf)
      (h m _ _ w hH hp (inv.set hr' hkn') (hput a hf) hs)

theorem od_mv {d : Nat} {op : Op} {ty : TypeId} {pos : String} {af : Array Edge} {v : Value} (hk : l[k]? = some ⟨some d, op, ty, pos, af, none⟩) (hd : Nat.blt d C.n = true) (hp : Pur C ⟨some d, op, ty, pos, af, none⟩ fm M0 own0 v) (h : OD C l n t M0 own0 ((d, v) :: fm) M own K) : OD C l n (.mv k t) M0 own0 fm M own K :=
  od_mv0 hk (fun a hf => .inl ⟨by simp [Region.wanted], fun w hs => hp a w hf hs⟩) (fun a hf => hf.put hd v) h

theorem od_cmp {d : Nat} {op : Op} {ty : TypeId} {pos : String} {af : Array Edge} {p : Prop} (hk : l[k]? = some ⟨some d, op, ty, pos, af, none⟩) (hd : Nat.blt d C.n = true) (hp : Cmp C ⟨some d, op, ty, pos, af, none⟩ fm M0 own0 p) (h1 : ∀ _ : p, OD C l n t M0 own0 ((d, .bool true) :: fm) M own K) (h2 : ∀ _ : ¬ p, OD C l n t M0 own0 ((d, .bool false) :: fm) M own K) : OD C l n (.mv k t) M0 own0 fm M own K := by
  by_cases h : p
  · exact od_mv hk hd (hp.yes h) (h1 h)
  · exact od_mv hk hd (hp.no h) (h2 h)

theorem od_gskip {d : Nat} {op : Op} {ty : TypeId} {pos : String} {af : Array Edge} {j s : Nat} {want b : Bool} (hk : l[k]? = some ⟨some d, op, ty, pos, af, some (j, want)⟩) (hj : gdst l.toArray j = some s) (hg : fm.get s = some (.bool b)) (hb : b = !want) (hd : Nat.blt d C.n = true) (h : OD C l n t M0 own0 ((d, undef) :: fm) M own K) : OD C l n (.mv k t) M0 own0 fm M own K :=
  od_mv0 hk (fun a hf => .inr ⟨by subst hb; simp [Region.wanted, yielded_of hf hj hg], rfl⟩) (fun a hf => hf.put hd undef) h

theorem od_gskipu {d : Nat} {op : Op} {ty : TypeId} {pos : String} {af : Array Edge} {j s : Nat} {want : Bool} (hk : l[k]? = some ⟨some d, op, ty, pos, af, some (j, want)⟩) (hj : gdst l.toArray j = some s) (hg : fm.get s = some undef) (hd : Nat.blt d C.n = true) (h : OD C l n t M0 own0 ((d, undef) :: fm) M own K) : OD C l n (.mv k t) M0 own0 fm M own K :=
  od_mv0 hk (fun a hf => .inr ⟨by simp [Region.wanted, yielded_undef hf hj hg], rfl⟩) (fun a hf => hf.put hd undef) h

theorem od_gmv {d : Nat} {op : Op} {ty : TypeId} {pos : String} {af : Array Edge} {j s : Nat} {want b : Bool} {v : Value} (hk : l[k]? = some ⟨some d, op, ty, pos, af, some (j, want)⟩) (hj : gdst l.toArray j = some s) (hg : fm.get s = some (.bool b)) (hb : b = want) (hd : Nat.blt d C.n = true) (hp : Pur C ⟨some d, op, ty, pos, af, some (j, want)⟩ fm M0 own0 v) (h : OD C l n t M0 own0 ((d, v) :: fm) M own K) : OD C l n (.mv k t) M0 own0 fm M own K :=
  od_mv0 hk (fun a hf => .inl ⟨by subst hb; simp [Region.wanted, yielded_of hf hj hg], fun w hs => hp a w hf hs⟩) (fun a hf => hf.put hd v) h

theorem od_gcmp {d : Nat} {op : Op} {ty : TypeId} {pos : String} {af : Array Edge} {j s : Nat} {want b : Bool} {p : Prop} (hk : l[k]? = some ⟨some d, op, ty, pos, af, some (j, want)⟩) (hj : gdst l.toArray j = some s) (hg : fm.get s = some (.bool b)) (hb : b = want) (hd : Nat.blt d C.n = true) (hp : Cmp C ⟨some d, op, ty, pos, af, some (j, want)⟩ fm M0 own0 p) (h1 : ∀ _ : p, OD C l n t M0 own0 ((d, .bool true) :: fm) M own K) (h2 : ∀ _ : ¬ p, OD C l n t M0 own0 ((d, .bool false) :: fm) M own K) : OD C l n (.mv k t) M0 own0 fm M own K := by
  by_cases h : p
  · exact od_gmv hk hj hg hb hd (hp.yes h) (h1 h)
  · exact od_gmv hk hj hg hb hd (hp.no h) (h2 h)

/-- An operation that is walked as it stands (not taken first). -/
def FX (C : Pr) (l : List Oper) (n k : Nat) (t : PT) (M0 : View) (own0 : List OB) (fm : FM) (M : View) (own : List OB) (K : SP) : Prop :=
  ∀ (m : Nat) (listed : Array Bool) (a : Act) (w : World), headB l.toArray n = true → ptB l.toArray n (l.length - n) t m (listed.setIfInBounds k true) = true → HeadInv .any l.toArray n (listed.setIfInBounds k true) → FrOk C.n a fm → St C.wE C.mu M own w →
    okOp C.P l.toArray k (AnyT C.P l.toArray n (Lfin C l n K) (fun w => St C.wE C.mu M0 own0 w) m (listed.setIfInBounds k true)) a w

theorem od_fx (hw : Wk M0 own0 M own) (h : FX C l n k t M0 own0 fm M own K) : OD C l n (.fx k t) M0 own0 fm M own K := by
  intro m listed a w hH hp inv hf hs
  cases m with
  | zero => simp [ptB] at hp
  | succ m =>
    simp only [ptB, Bool.and_eq_true, decide_eq_true_eq] at hp
    obtain ⟨⟨hr, hkn⟩, hp⟩ := hp
    have hkn' : k < n := by simp [Nat.blt] at hkn; omega
    refine ⟨hw.st hs, by rw [hr]; simp, fun i hi => ?_⟩
    have hik : i = k := by rw [hr] at hi; simpa using hi
    subst hik
    exact ⟨hkn', h m listed a w hH hp (inv.set hi hkn') hf hs⟩

/-- Two may come up: both are walked. -/
theorem od_br {k1 k2 : Nat} {t1 t2 : PT} (hw : Wk M0 own0 M own) (h1 : FX C l n k1 t1 M0 own0 fm M own K) (h2 : FX C l n k2 t2 M0 own0 fm M own K) : OD C l n (.br k1 t1 k2 t2) M0 own0 fm M own K := by
  intro m listed a w hH hp inv hf hs
  cases m with
  | zero => simp [ptB] at hp
  | succ m =>
    simp only [ptB, Bool.and_eq_true, decide_eq_true_eq] at hp
    obtain ⟨⟨⟨⟨hr, hkn1⟩, hkn2⟩, hp1⟩, hp2⟩ := hp
    have hkn1' : k1 < n := by simp [Nat.blt] at hkn1; omega
    have hkn2' : k2 < n := by simp [Nat.blt] at hkn2; omega
    refine ⟨hw.st hs, by rw [hr]; simp, fun i hi => ?_⟩
    have hik : i = k1 ∨ i = k2 := by rw [hr] at hi; simpa using hi
    rcases hik with e | e
    · subst e; exact ⟨hkn1', h1 m listed a w hH hp1 (inv.set hi hkn1') hf hs⟩
    · subst e; exact ⟨hkn2', h2 m listed a w hH hp2 (inv.set hi hkn2') hf hs⟩

/-- Three may come up. -/
theorem od_b3 {k1 k2 k3 : Nat} {t1 t2 t3 : PT} (hw : Wk M0 own0 M own) (h1 : FX C l n k1 t1 M0 own0 fm M own K) (h2 : FX C l n k2 t2 M0 own0 fm M own K) (h3 : FX C l n k3 t3 M0 own0 fm M own K) : OD C l n (.b3 k1 t1 k2 t2 k3 t3) M0 own0 fm M own K := by
  intro m listed a w hH hp inv hf hs
  cases m with
  | zero => simp [ptB] at hp
  | succ m =>
    simp only [ptB, Bool.and_eq_true, decide_eq_true_eq] at hp
    obtain ⟨⟨⟨⟨hr, ⟨hkn1, hkn2⟩, hkn3⟩, hp1⟩, hp2⟩, hp3⟩ := hp
    have hkn1' : k1 < n := by simp [Nat.blt] at hkn1; omega
    have hkn2' : k2 < n := by simp [Nat.blt] at hkn2; omega
    have hkn3' : k3 < n := by simp [Nat.blt] at hkn3; omega
    refine ⟨hw.st hs, by rw [hr]; simp, fun i hi => ?_⟩
    have hik : i = k1 ∨ i = k2 ∨ i = k3 := by rw [hr] at hi; simpa using hi
    rcases hik with e | e | e
    · subst e; exact ⟨hkn1', h1 m listed a w hH hp1 (inv.set hi hkn1') hf hs⟩
    · subst e; exact ⟨hkn2', h2 m listed a w hH hp2 (inv.set hi hkn2') hf hs⟩
    · subst e; exact ⟨hkn3', h3 m listed a w hH hp3 (inv.set hi hkn3') hf hs⟩

/-- Four may come up. -/
theorem od_b4 {k1 k2 k3 k4 : Nat} {t1 t2 t3 t4 : PT} (hw : Wk M0 own0 M own) (h1 : FX C l n k1 t1 M0 own0 fm M own K) (h2 : FX C l n k2 t2 M0 own0 fm M own K) (h3 : FX C l n k3 t3 M0 own0 fm M own K) (h4 : FX C l n k4 t4 M0 own0 fm M own K) : OD C l n (.b4 k1 t1 k2 t2 k3 t3 k4 t4) M0 own0 fm M own K := by
  intro m listed a w hH hp inv hf hs
  cases m with
  | zero => simp [ptB] at hp
  | succ m =>
    simp only [ptB, Bool.and_eq_true, decide_eq_true_eq] at hp
    obtain ⟨⟨⟨⟨⟨hr, ⟨⟨hkn1, hkn2⟩, hkn3⟩, hkn4⟩, hp1⟩, hp2⟩, hp3⟩, hp4⟩ := hp
    have hkn1' : k1 < n := by simp [Nat.blt] at hkn1; omega
    have hkn2' : k2 < n := by simp [Nat.blt] at hkn2; omega
    have hkn3' : k3 < n := by simp [Nat.blt] at hkn3; omega
    have hkn4' : k4 < n := by simp [Nat.blt] at hkn4; omega
    refine ⟨hw.st hs, by rw [hr]; simp, fun i hi => ?_⟩
    have hik : i = k1 ∨ i = k2 ∨ i = k3 ∨ i = k4 := by rw [hr] at hi; simpa using hi
    rcases hik with e | e | e | e
    · subst e; exact ⟨hkn1', h1 m listed a w hH hp1 (inv.set hi hkn1') hf hs⟩
    · subst e; exact ⟨hkn2', h2 m listed a w hH hp2 (inv.set hi hkn2') hf hs⟩
    · subst e; exact ⟨hkn3', h3 m listed a w hH hp3 (inv.set hi hkn3') hf hs⟩
    · subst e; exact ⟨hkn4', h4 m listed a w hH hp4 (inv.set hi hkn4') hf hs⟩

/-- The class may be made stricter behind an operation (what it has made may be read by what is taken first later). -/
theorem od_class {M1 : View} {own1 : List OB} (hw : Wk M0 own0 M1 own1) (h : OD C l n t M1 own1 fm M own K) : OD C l n t M0 own0 fm M own K :=
  fun m listed a w hH hp inv hf hs => AnyT.mono (fun w'' h'' => hw.st h'') _ _ _ _ (h m listed a w hH hp inv hf hs)

theorem fx_step {o : Oper} (hk : l[k]? = some o) (hw : ∀ a, FrOk C.n a fm → Region.wanted o (yielded l.toArray a.tmps) = true) {put : Value → FM} (hput : ∀ a v, FrOk C.n a fm → FrOk C.n (a.put o.dst v) (put v))
    (h : Stp C o fm M own (fun v M' own' => OD C l n t M0 own0 (put v) M' own' K)) : FX C l n k t M0 own0 fm M own K := by
  intro m listed a w hH hp inv hf hs
  have hk' : l.toArray[k]? = some o := by simpa using hk
  unfold okOp
  simp only [hk', hw a hf, if_true]
  refine (h a w hf hs).mono fun v w' ⟨M', own', hs', hod⟩ => ?_
  exact hod m _ _ w' hH hp inv (hput a v hf) hs'

theorem fx_val {d : Nat} {op : Op} {ty : TypeId} {pos : String} {af : Array Edge} (hk : l[k]? = some ⟨some d, op, ty, pos, af, none⟩) (hd : Nat.blt d C.n = true) (h : Stp C ⟨some d, op, ty, pos, af, none⟩ fm M own (fun v M' own' => OD C l n t M0 own0 ((d, v) :: fm) M' own' K)) : FX C l n k t M0 own0 fm M own K :=
  fx_step hk (fun _ _ => by simp [Region.wanted]) (fun _ v hf => hf.put hd v) h

theorem fx_eff {op : Op} {ty : TypeId} {pos : String} {af : Array Edge} (hk : l[k]? = some ⟨none, op, ty, pos, af, none⟩) (h : Stp C ⟨none, op, ty, pos, af, none⟩ fm M own (fun _ M' own' => OD C l n t M0 own0 fm M' own' K)) : FX C l n k t M0 own0 fm M own K :=
  fx_step (put := fun _ => fm) hk (fun _ _ => by simp [Region.wanted]) (fun _ _ hf => hf) h

theorem fx_gval {d : Nat} {op : Op} {ty : TypeId} {pos : String} {af : Array Edge} {j s : Nat} {want b : Bool} (hk : l[k]? = some ⟨some d, op, ty, pos, af, some (j, want)⟩) (hj : gdst l.toArray j = some s) (hg : fm.get s = some (.bool b)) (hb : b = want) (hd : Nat.blt d C.n = true)
    (h : Stp C ⟨some d, op, ty, pos, af, some (j, want)⟩ fm M own (fun v M' own' => OD C l n t M0 own0 ((d, v) :: fm) M' own' K)) : FX C l n k t M0 own0 fm M own K :=
  fx_step hk (fun a hf => by subst hb; simp [Region.wanted, yielded_of hf hj hg]) (fun _ v hf => hf.put hd v) h

theorem fx_geff {op : Op} {ty : TypeId} {pos : String} {af : Array Edge} {j s : Nat} {want b : Bool} (hk : l[k]? = some ⟨none, op, ty, pos, af, some (j, want)⟩) (hj : gdst l.toArray j = some s) (hg : fm.get s = some (.bool b)) (hb : b = want)
    (h : Stp C ⟨none, op, ty, pos, af, some (j, want)⟩ fm M own (fun _ M' own' => OD C l n t M0 own0 fm M' own' K)) : FX C l n k t M0 own0 fm M own K :=
  fx_step (put := fun _ => fm) hk (fun a hf => by subst hb; simp [Region.wanted, yielded_of hf hj hg]) (fun _ _ hf => hf) h

/-- A guarded operation of the forced kind that is passed over. -/
theorem fx_gskip {d : Nat} {op : Op} {ty : TypeId} {pos : String} {af : Array Edge} {j s : Nat} {want b : Bool} (hk : l[k]? = some ⟨some d, op, ty, pos, af, some (j, want)⟩) (hj : gdst l.toArray j = some s) (hg : fm.get s = some (.bool b)) (hb : b = !want) (hd : Nat.blt d C.n = true) (h : OD C l n t M0 own0 ((d, undef) :: fm) M own K) : FX C l n k t M0 own0 fm M own K := by
  intro m listed a w hH hp inv hf hs
  have hk' : l.toArray[k]? = some ⟨some d, op, ty, pos, af, some (j, want)⟩ := by simpa using hk
  unfold okOp
  simp only [hk']
  rw [if_neg (by subst hb; simp [Region.wanted, yielded_of hf hj hg])]
  exact h m _ _ w hH hp inv (hf.put hd undef) hs

theorem fx_gskipu {d : Nat} {op : Op} {ty : TypeId} {pos : String} {af : Array Edge} {j s : Nat} {want : Bool} (hk : l[k]? = some ⟨some d, op, ty, pos, af, some (j, want)⟩) (hj : gdst l.toArray j = some s) (hg : fm.get s = some undef) (hd : Nat.blt d C.n = true) (h : OD C l n t M0 own0 ((d, undef) :: fm) M own K) : FX C l n k t M0 own0 fm M own K := by
  intro m listed a w hH hp inv hf hs
  have hk' : l.toArray[k]? = some ⟨some d, op, ty, pos, af, some (j, want)⟩ := by simpa using hk
  unfold okOp
  simp only [hk']
  rw [if_neg (by simp [Region.wanted, yielded_undef hf hj hg])]
  exact h m _ _ w hH hp inv (hf.put hd undef) hs

theorem cw_draw {id : Nat} {X : Nat → SP} {R : SP} (n : Nat) (t : PT) (hm : C.P.follows .mixedOrders = true) (hB : drawB l n t = true) (h : OD C l n t M own fm M own K) : CW C (.region id l.toArray true) fm M own K X R := by
  intro a w hf hs
  unfold drawB at hB
  simp only [Bool.and_eq_true] at hB
  obtain ⟨⟨hH, hn⟩, hp⟩ := hB
  have hn' : n ≤ l.length := by simpa [Nat.ble_eq] using hn
  have inv0 : HeadInv .any l.toArray n (Array.replicate l.length false) :=
    ⟨by simp, fun j oj _ hl => (by rw [getD_replicate_false] at hl; cases hl), fun t _ ht => getD_in (by simpa using ht) (getD_replicate_false _ _)⟩
  have H := h n (Array.replicate l.length false) a { w with drawn := w.drawn + 1 } hH hp inv0 hf hs.drew
  refine wp_region_any hm ?_
  have := wpAny_of_T (Q := post C K X R) (g := l.length - n) (fun listed a w hL => by
    have := wpAny_of_seq (md := .any) (Q' := post C K X R) (l.drop n) n listed a w (fun j => by simp [List.getElem?_drop]) (by rw [List.length_drop]; exact hL.1) (wpList_of_lst (fun _ _ h => h) _ _ _ hL.2)
    rwa [List.length_drop] at this) _ _ _ _ H
  rw [show n + (l.length - n) = l.length by omega] at this
  simpa using this

/-- The same; what all worlds of the head hold is said. -/
theorem cw_drawW {id : Nat} {X : Nat → SP} {R : SP} (n : Nat) (t : PT) (hm : C.P.follows .mixedOrders = true) (hB : drawB l n t = true) (hw : Wk M0 own0 M own) (h : OD C l n t M0 own0 fm M own K) : CW C (.region id l.toArray true) fm M own K X R := by
  intro a w hf hs
  unfold drawB at hB
  simp only [Bool.and_eq_true] at hB
  obtain ⟨⟨hH, hn⟩, hp⟩ := hB
  have hn' : n ≤ l.length := by simpa [Nat.ble_eq] using hn
  have inv0 : HeadInv .any l.toArray n (Array.replicate l.length false) :=
    ⟨by simp, fun j oj _ hl => (by rw [getD_replicate_false] at hl; cases hl), fun t _ ht => getD_in (by simpa using ht) (getD_replicate_false _ _)⟩
  have H := h n (Array.replicate l.length false) a { w with drawn := w.drawn + 1 } hH hp inv0 hf hs.drew
  refine wp_region_any hm ?_
  have := wpAny_of_T (Q := post C K X R) (g := l.length - n) (fun listed a w hL => by
    have := wpAny_of_seq (md := .any) (Q' := post C K X R) (l.drop n) n listed a w (fun j => by simp [List.getElem?_drop]) (by rw [List.length_drop]; exact hL.1) (wpList_of_lst (fun _ _ h => h) _ _ _ hL.2)
    rwa [List.length_drop] at this) _ _ _ _ H
  rw [show n + (l.length - n) = l.length by omega] at this
  simpa using this

section
variable {l0 : Array Oper} {rest : List Oper} {d : Nat} {ty : TypeId} {pos : String} {af : Array Edge} {v : Value} {x : Operand}
theorem ol_mv (hd : Nat.blt d C.n = true) (hx : ev fm x = some v) (h : OL C l0 rest ((d, v) :: fm) M own K) : OL C l0 (⟨some d, .move x, ty, pos, af, none⟩ :: rest) fm M own K := ol_val hd (stp_pur (s_move hx) h)
theorem ol_as (hd : Nat.blt d C.n = true) (hx : ev fm x = some v) (h : OL C l0 rest ((d, v) :: fm) M own K) : OL C l0 (⟨some d, .assign x, ty, pos, af, none⟩ :: rest) fm M own K := ol_val hd (stp_pur (s_assign hx) h)
theorem ol_fa {s i off b o r : Nat} (hd : Nat.blt d C.n = true) (hx : ev fm x = some (.pointer (some ⟨b, o, none⟩))) (hf : fieldB C.P s i = some off) (hr : o + off = r) (h : OL C l0 rest ((d, .pointer (some ⟨b, r, none⟩)) :: fm) M own K) : OL C l0 (⟨some d, .fieldAddr s x i, ty, pos, af, none⟩ :: rest) fm M own K := ol_val hd (stp_pur (s_fieldAddr' hx hf hr) h)
theorem ol_ld {t b off : Nat} (hd : Nat.blt d C.n = true) (hx : ev fm x = some (.pointer (some ⟨b, off, none⟩))) (ht : aggB C.P t = some false) (hr : RdN M own b off 1 [v]) (h : OL C l0 rest ((d, v) :: fm) M own K) : OL C l0 (⟨some d, .load t x, ty, pos, af, none⟩ :: rest) fm M own K := ol_val hd (stp_pur (s_load1 hx ht hr) h)
theorem ol_ldN {t b off n : Nat} {vs : List Value} (hd : Nat.blt d C.n = true) (hx : ev fm x = some (.pointer (some ⟨b, off, none⟩))) (ht : aggB C.P t = some true) (hn : sizeB C.P t = some n) (hr : RdN M own b off n vs) (h : OL C l0 rest ((d, .agg vs.toArray) :: fm) M own K) : OL C l0 (⟨some d, .load t x, ty, pos, af, none⟩ :: rest) fm M own K := ol_val hd (stp_pur (s_loadN hx ht hn hr) h)
theorem ol_ex {vs : List Value} {i : Nat} (hd : Nat.blt d C.n = true) (hx : ev fm x = some (.tuple vs.toArray)) (hi : nthV vs i = some v) (h : OL C l0 rest ((d, v) :: fm) M own K) : OL C l0 (⟨some d, .extract x i, ty, pos, af, none⟩ :: rest) fm M own K := ol_val hd (stp_pur (s_extract hx hi) h)
end

/-- (the region's number, the operation's number: said) -/
theorem cw_region_id {l : List Oper} {X : Nat → SP} {R : SP} (id : Nat) (h : OL C l.toArray l fm M own K) : CW C (.region id l.toArray false) fm M own K X R := cw_region h
theorem fx_at (k : Nat) (h : FX C l n k t M0 own0 fm M own K) : FX C l n k t M0 own0 fm M own K := h
end
end Go.Fw
