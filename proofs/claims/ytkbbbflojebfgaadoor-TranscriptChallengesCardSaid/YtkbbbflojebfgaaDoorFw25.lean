/-
  The program logic, twenty-fifth part: drawn regions in the code of a round.
-/
import Derived.Test.YtkbbbflojebfgaaDoorFw24
import Derived.OrdersIn
set_option linter.unusedSimpArgs false
set_option linter.unusedVariables false
namespace Go.Fw
open Go Go.RowKit

section
variable {ro : Option Nat} {P : Program} {ops : Array Oper} {Q : Exit → Act → World → Prop}
theorem wpOpIn_of_okOp {n i : Nat} {K : Act → World → Prop} {a : Act} {w : World} (hh : okOp P ops i K a w) : wpOpIn (Fr ro) n P ops Q i K a w := by
  unfold okOp at hh
  unfold wpOpIn
  split
  · rename_i ho; simp only [ho] at hh; exact hh
  · rename_i o ho
    simp only [ho] at hh
    split
    · rename_i hw; simp only [hw, if_true] at hh; exact hh.wpIn fun v w' hv => hv
    · rename_i hw; simp only [hw] at hh; exact ⟨fun _ _ => trivial, hh⟩

theorem wpAnyIn_of_lst {n : Nat} {md : Region.Mode} {K : Act → World → Prop} (hk : ∀ a w, K a w → Q .normal a w) : ∀ (l : List Oper) (k : Nat) (listed : Array Bool) (a : Act) (w : World), (∀ j, l[j]? = ops[k + j]?) →
    Region.seqB md ops l.length k listed = true → lst P ops K l a w → wpAnyIn (Fr ro) n P md ops Q l.length listed a w
  | [], _, _, _, _, _, hB, h => ⟨by simpa [Region.seqB] using hB, hk _ _ h⟩
  | o :: l, k, listed, a, w, hl, hB, h => by
    have h0 : ops[k]? = some o := by simpa using (hl 0).symm
    simp only [List.length_cons, Region.seqB, Bool.and_eq_true, decide_eq_true_eq] at hB
    refine ⟨fun h1 => (by rw [hB.1] at h1; cases h1), fun i hi => ?_⟩
    rw [hB.1] at hi
    have hik : i = k := by simpa using hi
    subst hik
    have hw : okOp P ops i (lst P ops K l) a w := by unfold okOp; simp only [h0]; exact h
    exact wpOpIn_of_okOp (okOp_mono (fun a' w' h' => wpAnyIn_of_lst hk l (i + 1) _ a' w' (fun j => by have := hl (j + 1); simpa [Nat.add_assoc, Nat.add_comm 1 j] using this) hB.2 h') hw)

theorem wpAnyIn_of_T {m n g : Nat} {C : World → Prop} {L : Array Bool → Act → World → Prop} (hL : ∀ listed a w, L listed a w → wpAnyIn (Fr ro) m P .any ops Q g listed a w) :
    ∀ (f : Nat) (listed : Array Bool) (a : Act) (w : World), AnyT P ops n L C f listed a w → wpAnyIn (Fr ro) m P .any ops Q (f + g) listed a w
  | 0, listed, a, w, h => by rw [Nat.zero_add]; exact hL _ _ _ h.2
  | f + 1, listed, a, w, h => by
    rw [show f + 1 + g = (f + g) + 1 by omega]
    exact ⟨fun h0 => absurd h0 h.2.1, fun i hi => wpOpIn_of_okOp (okOp_mono (fun a w => wpAnyIn_of_T hL f _ a w) (h.2.2 i hi).2)⟩
end

section
variable {ro : Option Nat} {C : Pr} {l : List Oper} {fm : FM} {M M0 : View} {own own0 : List OB} {N : SP}
theorem cr_drawW {id : Nat} (n : Nat) (t : PT) (hm : C.P.follows .mixedOrders = true) (hB : drawB l n t = true) (hw : Wk M0 own0 M own) (h : OD C l n t M0 own0 fm M own N) : CR ro C (.region id l.toArray true) fm M own N := by
  intro a w hf hs
  unfold drawB at hB
  simp only [Bool.and_eq_true] at hB
  obtain ⟨⟨hH, hn⟩, hp⟩ := hB
  have hn' : n ≤ l.length := by simpa [Nat.ble_eq] using hn
  have inv0 : HeadInv .any l.toArray n (Array.replicate l.length false) :=
    ⟨by simp, fun j oj _ hl => (by rw [getD_replicate_false] at hl; cases hl), fun t _ ht => getD_in (by simpa using ht) (getD_replicate_false _ _)⟩
  have H := h n (Array.replicate l.length false) a { w with drawn := w.drawn + 1 } hH hp inv0 hf hs.drew
  refine wpIn_region_any hm ?_
  have := wpAnyIn_of_T (ro := ro) (m := 0) (Q := fun e a' w' => e = .normal ∧ real C N a' w') (g := l.length - n) (fun listed a w hL => by
    have := wpAnyIn_of_lst (ro := ro) (n := 0) (md := .any) (Q := fun e a' w' => e = .normal ∧ real C N a' w') (fun a w h => ⟨rfl, h⟩) (l.drop n) n listed a w (fun j => by simp [List.getElem?_drop]) (by rw [List.length_drop]; exact hL.1) hL.2
    rwa [List.length_drop] at this) _ _ _ _ H
  rw [show n + (l.length - n) = l.length by omega] at this
  simpa using this
theorem cr_draw {id : Nat} (n : Nat) (t : PT) (hm : C.P.follows .mixedOrders = true) (hB : drawB l n t = true) (h : OD C l n t M own fm M own N) : CR ro C (.region id l.toArray true) fm M own N := cr_drawW n t hm hB (Wk.refl M own) h
theorem cr_region_id {l : List Oper} (id : Nat) (h : OL C l.toArray l fm M own N) : CR ro C (.region id l.toArray false) fm M own N := cr_region h
end
section
variable {C : Pr} {ms : List Nat} {fm : FM} {M : View} {own : List OB} {N : SPM} {X : Nat → SPM} {R : SPM}
theorem cwm_region_id {l : List Oper} (id : Nat) (h : OL C l.toArray l fm M own (fun fm' M' own' => N ms fm' M' own')) : CWM C (.region id l.toArray false) ms fm M own N X R := cwm_region h
theorem cwm_cond_true {c : Operand} {x y : Code} {b : Bool} (hc : ev fm c = some (.bool b)) (hb : b = true) (h : CWM C x ms fm M own N X R) : CWM C (.cond c x y) ms fm M own N X R :=
  cwm_cond hc (fun _ => h) (fun hf => by rw [hb] at hf; cases hf)
theorem cwm_cond_false {c : Operand} {x y : Code} {b : Bool} (hc : ev fm c = some (.bool b)) (hb : b = false) (h : CWM C y ms fm M own N X R) : CWM C (.cond c x y) ms fm M own N X R :=
  cwm_cond hc (fun ht => by rw [hb] at ht; cases ht) (fun _ => h)
theorem cwm_pick {c : Code} {own' : List OB} (ho : Pick own own') (h : CWM C c ms fm M own' N X R) : CWM C c ms fm M own N X R := fun a w hs => h a w ⟨hs.fr, hs.ds, hs.st.pick ho⟩
theorem cwm_own {c : Code} {own' : List OB} (he : own = own') (h : CWM C c ms fm M own' N X R) : CWM C c ms fm M own N X R := he ▸ h
theorem cwm_none {c : Code} (e : TypeId) (h : CWM C c ms fm M (⟨none, [], e⟩ :: own) N X R) : CWM C c ms fm M own N X R :=
  fun a w hs => h a w ⟨hs.fr, hs.ds, ⟨hs.st.os, hs.st.tape, hs.st.output, hs.st.size, hs.st.frame, hs.st.imm, fun x hx b hb => (by
    rcases List.mem_cons.1 hx with rfl | hx
    · cases hb
    · exact hs.st.sep x hx b hb), fun x hx => (by
    rcases List.mem_cons.1 hx with rfl | hx
    · rfl
    · exact hs.st.cells x hx), (by simpa using hs.st.nodup)⟩⟩
theorem cwm_freeze {c : Code} {b : Nat} {cs : List Value} {T : TypeId} {p q : List OB} (hp : Spl own ⟨some b, cs, T⟩ p q)
    (h : ∀ o fz, o = .cells cs.toArray T fz → M b = none → (C.wE.heap.size ≤ b ∨ b ∈ C.mu) → CWM C c ms fm (M.add b o) (p ++ q) N X R) : CWM C c ms fm M own N X R := by
  intro a w hs
  obtain ⟨fz, h1, h2, h3⟩ := hs.st.toView hp
  exact h _ fz rfl h1 h2 a w ⟨hs.fr, hs.ds, h3⟩
/-- The cells of an own block's type: what the view holds of it later. -/
theorem cwm_view {c : Code} {M' : View} (hM : View.le M' M) (h : CWM C c ms fm M' own N X R) : CWM C c ms fm M own N X R :=
  fun a w hs => h a w ⟨hs.fr, hs.ds, hs.st.weaken hM (List.Sublist.refl _)⟩
/-- A region with a call of yield, cut. -/
theorem cw_region_yieldK {N : SP} {X : Nat → SP} {R : SP} {id d : Nat} (k : Nat) {L pre post : List Oper} {c : Operand} {xs : List Operand} {ts : Array TypeId} {ty : TypeId} {pos : String} {af : Array Edge} (hp : L.take k = pre)
    (ho : L[k]? = some ⟨some d, .call { callee := .value c, args := xs.toArray, argTypes := ts }, ty, pos, af, none⟩) (hq : L.drop (k + 1) = post) (hd : Nat.blt d C.n = true)
    (h : OL C L.toArray pre fm M own (fun fm1 M1 own1 =>
      ∃ l rc vs n' fm', ev fm1 c = some (.func (.yield l) #[] #[]) ∧ evs fm1 xs = some vs ∧ M1 l = some (.loop rc) ∧ vs.length = rc.params.size ∧ rc.state = .ready ∧ rc.pending = none ∧ (C.wE.heap.size ≤ l ∨ l ∈ C.mu) ∧
        FrOk n' { tmps := (rc.params.zip vs.toArray).foldl (fun tmps (t, a) => tmps.setIfInBounds t a) rc.tmps, defers := [] } fm' ∧
        CR (some l) ⟨C.P, n', C.wE, C.mu⟩ rc.assign fm' M1 own1 (fun fm2 M2 own2 => M2 l = some (.loop rc) ∧
          CR (some l) ⟨C.P, n', C.wE, C.mu⟩ rc.body fm2 (M2.add l (.loop { rc with state := .busy })) own2 (fun _ M3 own3 => M3 l = some (.loop { rc with state := .busy }) ∧
            OL C L.toArray post ((d, .bool true) :: fm1) (M3.add l (.loop rc)) own3 N)))) :
    CW C (.region id L.toArray false) fm M own N X R := by
  have hL : L = pre ++ ⟨some d, .call { callee := .value c, args := xs.toArray, argTypes := ts }, ty, pos, af, none⟩ :: post := by
    have hk := (List.getElem?_eq_some_iff.1 ho)
    obtain ⟨hlt, he⟩ := hk
    rw [← hp, ← hq, ← he, List.getElem_cons_drop]
    exact (List.take_append_drop k L).symm
  subst hL
  exact cw_region_yield hd h
theorem View.busy_le {l : Nat} {o o' : Obj} (h : M l = some o) : View.le M ((M.add l o').add l o) := fun k u e => by
  by_cases hk : k = l
  · subst hk
    rw [View.add_same, ← h]; exact e
  · rw [View.add_other hk, View.add_other hk]; exact e
/-- The frame of a round with one parameter. -/
theorem frOk_round {n t : Nat} {tmps : Array Value} {v : Value} (h : FrOk n { tmps := tmps, defers := [] } fm) (ht : Nat.blt t n = true) : FrOk n { tmps := ((#[t] : Array Nat).zip [v].toArray).foldl (fun tmps (x : Nat × Value) => tmps.setIfInBounds x.1 x.2) tmps, defers := [] } ((t, v) :: fm) := by
  have := h.put ht v
  simpa [Act.put] using this
/-- The statement, the two new blocks hidden. -/
theorem cwm_range {g : Operand} {ps : Array Tmp} {assign body c : Code} {f : FuncId} {fn : Func} {fs cs : List Value} {n' : Nat} (hg : ev fm g = some (.func (.func f) fs.toArray cs.toArray)) (hgo : goFunc C.P f = true)
    (hf : C.P.funcs[f]? = some fn) (hb : fn.body = some c) (hn : fn.ntmps = n') (hr : fn.results = #[]) (ha : Nat.ble (fs.length + 1 + cs.length) n' = true) (hmk : MK C ms M)
    (h : ∀ l rc V, C.wE.heap.size ≤ l → View.le M V → V l = some (.loop rc) → rc.state = .ready → rc.pending = none → rc.params = ps → rc.assign = assign → rc.body = body → FrOk C.n { tmps := rc.tmps, defers := [] } fm → (∀ o, View.le M (V.add l o)) →
      CW ⟨C.P, n', C.wE, C.mu⟩ c (params 0 (fs ++ [Value.func (.yield l) #[] #[]] ++ cs)) V own
        (fun _ M' own' => View.le V M' ∧ ∀ ms' V2, View.le M V2 → MK C ms' V2 → N ms' fm V2 own') (fun _ _ _ _ => False)
        (fun _ M' own' => View.le V M' ∧ ∀ ms' V2, View.le M V2 → MK C ms' V2 → N ms' fm V2 own')) :
    CWM C (.rangeFunc g ps assign body) ms fm M own N X R := by
  refine cwm_rangeFunc hg hgo hf hb hn hr ha hmk fun D tmps fid h1 h2 h3 h4 h5 => ?_
  have v1 : View.le M (M.add D (.deferred (some []))) := View.add_le h2
  have e1 : (M.add D (.deferred (some []))) (D + 1) = none := by rw [View.add_other (by omega)]; exact h3
  have v2 := fun o => View.le.trans v1 (View.add_le (o := o) e1)
  have key : ∀ M' own', View.le ((M.add D (.deferred (some []))).add (D + 1) (.loop { state := .ready, pending := none, fn := fid, tmps := tmps, params := ps, assign := assign, body := body, defers := D })) M' → (∀ ms' V2, View.le M V2 → MK C ms' V2 → N ms' fm V2 own') →
      ∃ rc, M' (D + 1) = some (.loop rc) ∧ rc.state ≠ .busy ∧ rc.pending = none ∧ ∀ o, N (D :: ms) fm (M'.add (D + 1) o) own' := fun M' own' k1 k2 => by
    refine ⟨_, k1 _ _ View.add_same, (fun e => by cases e), rfl, fun o => k2 _ _ (fun b x e => ?_) ⟨List.nodup_cons.2 ⟨fun hm => absurd (h4 D hm) (by omega), hmk.1⟩, fun D' hD' => ?_⟩⟩
    · have hb : b ≠ D + 1 := fun e2 => by rw [e2, h3] at e; cases e
      rw [View.add_other hb]
      refine k1 _ _ ?_
      rw [View.add_other hb]
      exact v1 _ _ e
    · rcases List.mem_cons.1 hD' with rfl | hD'
      · refine ⟨?_, h1⟩
        rw [View.add_other (by omega)]
        refine k1 _ _ ?_
        rw [View.add_other (by omega)]
        exact View.add_same
      · have hlt := h4 D' hD'
        refine ⟨?_, (hmk.2 D' hD').2⟩
        rw [View.add_other (by omega)]
        refine k1 _ _ ?_
        rw [View.add_other (by omega), View.add_other (by omega)]
        exact (hmk.2 D' hD').1
  refine cw_mono (h (D + 1) _ _ (Nat.le_succ_of_le h1) (v2 _) View.add_same rfl rfl rfl rfl rfl h5 (fun o b x e => ?_)) (fun _ M' own' ⟨k1, k2⟩ => key M' own' k1 k2) (fun _ _ _ _ h => h) (fun _ M' own' ⟨k1, k2⟩ => key M' own' k1 k2)
  have hb : b ≠ D + 1 := fun e2 => by rw [e2, h3] at e; cases e
  rw [View.add_other hb, View.add_other hb]
  exact v1 _ _ e
/-- A block of the view, read as a row. -/
theorem SlA.ofCells {α : Type} {enc : α → List Value} {sz : Nat} (he : ∀ x, (enc x).length = sz) {b : Nat} {xs : List α} {sp : List Value} {T : TypeId} {fz : Nat × Nat} (h : M b = some (.cells (flat enc xs ++ sp).toArray T fz)) : SlA M enc sz (some ⟨b, 0, none⟩) xs b 0 := by
  refine ⟨fun _ => rfl, fun i hi => ?_⟩
  refine (getN_flat he (sp := sp) hi).mono fun j v hv => ?_
  simp only [View.cell, h]
  simpa using hv
end
/-! ### Rows of some elements of several cells -/
theorem fil_rows {sz : Nat} {zs : List Value} (hz : zs.length = sz) : ∀ (vss : List (List Value)) (k : Nat) (pre : List Value), pre.length = k * sz → (∀ v ∈ vss, v.length = sz) →
    Fil (fun i => some (i * sz, sz)) (pre ++ (List.replicate vss.length zs).flatten) ((vss.zipIdx k).map fun p => (p.2, Value.agg p.1.toArray)) (pre ++ vss.flatten)
  | [], k, pre, _, _ => .nil
  | v :: vss, k, pre, hp, h => by
    have hv := h v (by simp)
    have ih := fil_rows hz vss (k + 1) (pre ++ v) (by rw [List.length_append, hp, hv, Nat.add_mul, Nat.one_mul]) (fun u hu => h u (by simp [hu]))
    rw [List.append_assoc] at ih
    have hset := setN_mid v pre zs ((List.replicate vss.length zs).flatten) (by rw [hv, hz])
    rw [hp] at hset
    simp only [List.length_cons, List.replicate_succ, List.flatten_cons, List.zipIdx_cons, List.map_cons]
    rw [← List.append_assoc]
    refine .agg (off := k * sz) (n := sz) rfl hv hset ?_ ?_
    · simp [hp, hz]
    · rw [List.append_assoc, ← List.append_assoc]
      rw [List.append_assoc] at ih
      simpa [List.append_assoc] using ih
section
variable {C : Pr} {fm : FM} {M : View} {own : List OB} {K : Value → View → List OB → Prop} {d : Option Nat} {ty : TypeId} {pos : String} {af : Array Edge} {g : Option (Nat × Bool)}
theorem s_buildSl2 {t e sz : Nat} {x1 x2 : Operand} {z : Value} {zs c1 c2 : List Value} (hx1 : ev fm x1 = some (.agg c1.toArray)) (hx2 : ev fm x2 = some (.agg c2.toArray)) (hu : tdSlice C.P t = some e) (hs : sizeB C.P e = some sz) (hz : zeroB C.P e = some z) (hzc : LEq z.cells.toList zs) (hlen : zs.length = sz) (h0 : Nat.blt 0 sz = true) (hn : 2 * sz ≤ 16777216)
    (hl1 : c1.length = sz) (hl2 : c2.length = sz) (k : ∀ b, K (.slice (some ⟨b, 0, none⟩) 2 2) M (⟨some b, [c1, c2].flatten, e⟩ :: own)) :
    Stp C ⟨d, .buildSlice t 2 #[(0, x1), (1, x2)], ty, pos, af, g⟩ fm M own K := by
  refine s_buildSl (ps := [(0, x1), (1, x2)]) (vs := [(0, .agg c1.toArray), (1, .agg c2.toArray)]) (by simp [evP, hx1, hx2]) hu hs hz hzc hlen h0 hn (LEq.refl _) ?_ k
  exact fil_rows hlen [c1, c2] 0 [] (by simp) (by simp [hl1, hl2])
theorem s_buildSl4 {t e sz : Nat} {x1 x2 x3 x4 : Operand} {z : Value} {zs c1 c2 c3 c4 : List Value} (hx1 : ev fm x1 = some (.agg c1.toArray)) (hx2 : ev fm x2 = some (.agg c2.toArray)) (hx3 : ev fm x3 = some (.agg c3.toArray)) (hx4 : ev fm x4 = some (.agg c4.toArray)) (hu : tdSlice C.P t = some e) (hs : sizeB C.P e = some sz) (hz : zeroB C.P e = some z) (hzc : LEq z.cells.toList zs) (hlen : zs.length = sz) (h0 : Nat.blt 0 sz = true) (hn : 4 * sz ≤ 16777216)
    (hl1 : c1.length = sz) (hl2 : c2.length = sz) (hl3 : c3.length = sz) (hl4 : c4.length = sz) (k : ∀ b, K (.slice (some ⟨b, 0, none⟩) 4 4) M (⟨some b, [c1, c2, c3, c4].flatten, e⟩ :: own)) :
    Stp C ⟨d, .buildSlice t 4 #[(0, x1), (1, x2), (2, x3), (3, x4)], ty, pos, af, g⟩ fm M own K := by
  refine s_buildSl (ps := [(0, x1), (1, x2), (2, x3), (3, x4)]) (vs := [(0, .agg c1.toArray), (1, .agg c2.toArray), (2, .agg c3.toArray), (3, .agg c4.toArray)]) (by simp [evP, hx1, hx2, hx3, hx4]) hu hs hz hzc hlen h0 hn (LEq.refl _) ?_ k
  exact fil_rows hlen [c1, c2, c3, c4] 0 [] (by simp) (by simp [hl1, hl2, hl3, hl4])
end
end Go.Fw
