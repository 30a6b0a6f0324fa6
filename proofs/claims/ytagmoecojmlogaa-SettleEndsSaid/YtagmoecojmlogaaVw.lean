/-
  SettleEnds holds: whatever the arguments, the law answers true, and its arguments read afterwards as they read before.
  No condition.
-/
import Derived.Test.YtagmoecojmlogaaVv
import Derived.Test.YtagmoecojmlogaaRows
namespace Go.Proofs.Ytagmoecojmlogaa
set_option maxRecDepth 20000
set_option linter.unusedSimpArgs false
set_option linter.unusedVariables false
open Go Go.Fw Go.ChangeShapes Go.WideShapes Go.ChangeAt Go.RowKit
theorem Try.own : ownKnob Try.prog.godebug = none := by kernel_rfl
theorem Try.laidOut : laidOutB Try.prog = true := by kernel_rfl
theorem und_3 : Try.prog.underlying 3 = some (.int .i64) := by kernel_rfl
theorem und_5 : Try.prog.underlying 5 = some (.int .u8) := by kernel_rfl
theorem und_22 : Try.prog.underlying 22 = some (.slice 61) := by kernel_rfl
theorem cellsOf_61 : Try.prog.cellsOf 61 = 3 := by kernel_rfl
theorem wf_u8 {x : Int} (h : (Lit.int .u8 x).wf = true) : 0 ≤ x ∧ x ≤ 255 := by have := wf_fit h; simpa [lowK, highK] using this
section
variable {H : Type} {enc : TypeId × Value → H} {W : World} {sp : Nat → Bool}
theorem three_ints {cs : List Value} (hl : cs.length = 3) (hf : ∀ j, j < 3 → ∃ x : Int, cs[j]? = some (.int .i64 x)) : ∃ u : C3, cs = u.enc := by
  obtain ⟨x0, g0⟩ := hf 0 (by omega)
  obtain ⟨x1, g1⟩ := hf 1 (by omega)
  obtain ⟨x2, g2⟩ := hf 2 (by omega)
  refine ⟨⟨x0, x1, x2⟩, ?_⟩
  match cs, hl with
  | [d0, d1, d2], _ =>
    simp at g0 g1 g2
    subst g0 g1 g2
    rfl
theorem int_cell {n : Nat} {v : Value} {y : DataW H × List MemPlace} (h : DataW.trod enc Try.prog W 0 sp true n 3 [v] = some y) : ∃ x : Int, v = .int .i64 x := by
  obtain ⟨x, e, _⟩ := DataW.trod_int und_3 h
  exact ⟨x, by simpa using e⟩
theorem transfer_el (n : Nat) (cs : List Value) (y : DataW H × List MemPlace) (h : DataW.trod enc Try.prog W 0 sp true n 61 cs = some y) : ∃ u : C3, True ∧ cs = u.enc := by
  obtain ⟨hl, hf⟩ := open_fields (Try.underlying61) (by kernel_rfl) (by kernel_rfl) h
  obtain ⟨u, hu⟩ := three_ints hl (fun j hj => by
    match j, hj with
    | 0, _ => obtain ⟨c, y, n, g, t⟩ := hf 0 _ rfl; obtain ⟨x, rfl⟩ := int_cell t; exact ⟨x, g⟩
    | 1, _ => obtain ⟨c, y, n, g, t⟩ := hf 1 _ rfl; obtain ⟨x, rfl⟩ := int_cell t; exact ⟨x, g⟩
    | 2, _ => obtain ⟨c, y, n, g, t⟩ := hf 2 _ rfl; obtain ⟨x, rfl⟩ := int_cell t; exact ⟨x, g⟩)
  exact ⟨u, trivial, hu⟩
end
end Go.Proofs.Ytagmoecojmlogaa
namespace Go.Proofs.Ytagmoecojmlogaa
set_option maxRecDepth 20000
set_option linter.unusedSimpArgs false
set_option linter.unusedVariables false
open Go Go.Fw Go.ChangeShapes Go.WideShapes Go.ChangeAt Go.RowKit
theorem und_52 : Try.prog.underlying 52 = some (.slice 87) := by kernel_rfl
theorem und_85 : Try.prog.underlying 85 = some (.int .u16) := by kernel_rfl
theorem cellsOf_87 : Try.prog.cellsOf 87 = 2 := by kernel_rfl
theorem wf_u16 {x : Int} (h : (Lit.int .u16 x).wf = true) : 0 ≤ x ∧ x ≤ 65535 := by have := wf_fit h; simpa [lowK, highK] using this
theorem trodAll_five {H : Type} {enc : TypeId × Value → H} {P : Program} {w : World} {base : Nat} {spare : Nat → Bool} {held : Bool} {t0 t1 t2 t3 t4 : TypeId} {args : Array Value} {ds : List (DataW H)} {ps : List MemPlace} (h : DataW.TrodAll enc P w base spare held [t0, t1, t2, t3, t4] args.toList ds ps) :
    ∃ v0 v1 v2 v3 v4 d0 d1 d2 d3 d4 p0 p1 p2 p3 p4, args = #[v0, v1, v2, v3, v4] ∧ ds = [d0, d1, d2, d3, d4] ∧ ps = p0 ++ p1 ++ p2 ++ p3 ++ p4 ∧ DataW.Trod enc P w base spare held t0 v0 d0 p0 ∧ DataW.Trod enc P w base spare held t1 v1 d1 p1 ∧ DataW.Trod enc P w base spare held t2 v2 d2 p2 ∧ DataW.Trod enc P w base spare held t3 v3 d3 p3 ∧ DataW.Trod enc P w base spare held t4 v4 d4 p4 := by
  obtain ⟨v0, vs0, d0, ds0, p0, q0, hargs, rfl, rfl, hd0, hr0⟩ := trodAll_cons h
  obtain ⟨v1, vs1, d1, ds1, p1, q1, rfl, rfl, rfl, hd1, hr1⟩ := trodAll_cons hr0
  obtain ⟨v2, vs2, d2, ds2, p2, q2, rfl, rfl, rfl, hd2, hr2⟩ := trodAll_cons hr1
  obtain ⟨v3, vs3, d3, ds3, p3, q3, rfl, rfl, rfl, hd3, hr3⟩ := trodAll_cons hr2
  obtain ⟨v4, vs4, d4, ds4, p4, q4, rfl, rfl, rfl, hd4, hr4⟩ := trodAll_cons hr3
  obtain ⟨rfl, rfl, rfl⟩ := trodAll_nil hr4
  exact ⟨v0, v1, v2, v3, v4, d0, d1, d2, d3, d4, p0, p1, p2, p3, p4, by cases args; simp_all, rfl, by simp, hd0, hd1, hd2, hd3, hd4⟩
section
variable {H : Type} {enc : TypeId × Value → H} {W : World} {sp : Nat → Bool}
theorem event_el (n : Nat) (cs : List Value) (y : DataW H × List MemPlace) (h : DataW.trod enc Try.prog W 0 sp true n 87 cs = some y) : ∃ u : EV, (u.k ≤ 255 ∧ u.w ≤ 65535) ∧ cs = u.enc := by
  obtain ⟨hl, hf⟩ := open_fields (Try.underlying87) (by kernel_rfl) (by kernel_rfl) h
  obtain ⟨v0, y0, n0, g0, t0⟩ := hf 0 _ rfl
  obtain ⟨v1, y1, n1, g1, t1⟩ := hf 1 _ rfl
  obtain ⟨x0, w0, e0⟩ := int_elK und_5 n0 _ y0 t0
  obtain ⟨x1, w1, e1⟩ := int_elK und_85 n1 _ y1 t1
  have w0 := wf_u8 w0
  have w1 := wf_u16 w1
  obtain ⟨k, rfl⟩ := Int.eq_ofNat_of_zero_le w0.1
  obtain ⟨w, rfl⟩ := Int.eq_ofNat_of_zero_le w1.1
  refine ⟨⟨k, w⟩, by dsimp only; omega, ?_⟩
  match cs, hl with
  | [d0, d1], _ =>
    simp at g0 g1
    subst g0 g1
    injection e0 with e0 _
    injection e1 with e1 _
    rw [e0, e1]
theorem open_events {B : Nat} {v : Value} {d : DataW H} {ps : List MemPlace} (hok : Value.okWide Try.prog W .any B 52 v) (h : DataW.Trod enc Try.prog W 0 sp true 52 v d ps) :
    ∃ (a : Option Addr) (l : List EV) (b o c : Nat), v = .slice a l.length c ∧ SlA (View.of W) EV.enc 2 a l b o ∧ ∀ e ∈ l, e.k ≤ 255 ∧ e.w ≤ 65535 := by
  obtain ⟨a, l, b, o, c, h1, h2, h3, _⟩ := open_row und_52 cellsOf_87 (by decide) (fun n cs y hy => event_el n cs y hy) hok h
  refine ⟨a, l, b, o, c, h1, h2, fun e he => ?_⟩
  obtain ⟨i, hi, rfl⟩ := List.mem_iff_getElem.1 he
  exact h3 i hi
theorem open_transfers {B : Nat} {v : Value} {d : DataW H} {ps : List MemPlace} (hok : Value.okWide Try.prog W .any B 22 v) (h : DataW.Trod enc Try.prog W 0 sp true 22 v d ps) :
    ∃ (a : Option Addr) (l : List C3) (b o c : Nat), v = .slice a l.length c ∧ SlA (View.of W) C3.enc 3 a l b o := by
  obtain ⟨a, l, b, o, c, h1, h2, _⟩ := open_row und_22 cellsOf_61 (by decide) (fun n cs y hy => transfer_el n cs y hy) hok h
  exact ⟨a, l, b, o, c, h1, h2⟩
end
end Go.Proofs.Ytagmoecojmlogaa
namespace Go.Proofs.Ytagmoecojmlogaa
set_option maxRecDepth 20000
set_option linter.unusedSimpArgs false
set_option linter.unusedVariables false
open Go Go.Fw
theorem wts_ge : ∀ {l : List MV}, (∀ m ∈ l, 1 ≤ wt m) → l.length ≤ wts l
  | [], _ => Nat.zero_le _
  | m :: l, h => by
    have h1 := h m (List.mem_cons_self ..)
    have h2 := wts_ge (l := l) fun m hm => h m (List.mem_cons_of_mem _ hm)
    rw [wts_cons, List.length_cons]
    omega
theorem MOK_wt1 {n : Nat} {B : List Int} {p : Nat → Int} {m : MV} (h : MOK n B p m) : 1 ≤ wt m := by
  cases h <;> (unfold wt; (try dsimp only); decide)
section
variable {n : Nat} {T : Nat → List C3} {ok : Bool} {y : YS}
theorem Inv.wle (h : Inv n T ok y) : y.way.length ≤ wts y.way := wts_ge fun m hm => MOK_wt1 (h.ms m hm)
theorem Inv.w4 (h : Inv n T ok y) : wts y.way ≤ 4 * y.way.length := wts_le fun m hm => (h.ms m hm).wt
theorem pot_le (q : Int) : pot q ≤ 16 := by unfold pot; split <;> omega
/-- The amount that a bank gets. -/
def amE (ok : Bool) (T : Nat → List C3) (i : Nat) : Int := if ok = true then sumT i (T i) else 0
theorem Inv.fin_dc (h : Inv n T ok y) (hT : (∀ i, i < n → T i = T 0) → ok = true) (h0 : (bank y 0).ph = 4 ∨ (bank y 0).ph = 5) {i : Nat} (hi : i < n) : dcP (bank y i) = (true, ok) ∧ mnP (bank y i) = (amE ok T i, 0) ∧ ((bank y i).ph = 4 ∨ (bank y i).ph = 5) := by
  obtain ⟨h1, h2⟩ := h.ended hT h0
  have h3 := h2 i hi
  obtain ⟨s1, s2, s3, s4⟩ := h.sh i hi
  have hc : cmB (bank y i).ph = ok := by
    rw [h3, h1]
    cases ok <;> rfl
  have hp : (bank y i).ph = 4 ∨ (bank y i).ph = 5 := by rw [h3]; exact h0
  refine ⟨?_, ?_, hp⟩
  · rw [h.dc hi, if_pos (by omega), hc]
  · unfold mnP amE
    rw [h.sv hi, if_neg (by simp), if_neg (by omega), hc, s2, s4]
    cases ok <;> rfl
theorem amE_bound (h : Inv n T ok y) (i : Nat) (hi : i < n) : -11258999068426240 ≤ amE ok T i ∧ amE ok T i ≤ 11258999068426240 := by
  unfold amE
  split
  · have h1 := sumT_bound (bk := i) (tr_bounds (h.ht i hi).1)
    have h2 := (h.ht i hi).2
    omega
  · omega
theorem sumR_b {f : Nat → Int} {b : Int} : ∀ k : Nat, (∀ i, i < k → -b ≤ f i ∧ f i ≤ b) → -(k * b) ≤ sumR f k ∧ sumR f k ≤ k * b
  | 0, _ => by unfold sumR; omega
  | k + 1, hb => by
    have h1 := sumR_b k fun i hi => hb i (by omega)
    have h2 := hb k (by omega)
    unfold sumR
    rw [Int.natCast_add, Int.add_mul, show ((1 : Nat) : Int) * b = b by omega]
    omega
theorem Inv.sum0 (h : Inv n T ok y) : sumR (amE ok T) n = 0 := by
  have hn := h.hn
  cases hok : ok with
  | false => exact (sumR_congr (g := fun _ => 0) fun i _ => rfl).trans (sumR_zero n)
  | true =>
    have hs := (h.sm hok).1
    have e : sumR (amE true T) n = sumR (fun i => sumT i (T 0)) n := sumR_congr fun i hi => by unfold amE; rw [if_pos rfl, hs i hi]
    rw [e]
    exact sumT_sum (tr_bounds (h.ht 0 (by omega)).1)
end
end Go.Proofs.Ytagmoecojmlogaa
namespace Go.Proofs.Ytagmoecojmlogaa
set_option maxRecDepth 20000
set_option linter.unusedSimpArgs false
set_option linter.unusedVariables false
open Go Go.Fw
/-- Banks and messages, part by part. -/
structure ES where
  rb : Nat
  cb : Nat
  spb : List Value
  rw_ : Option Nat
  ow : Nat
  Aw : Option Addr
  cw : Nat
  fr : List Value
  spw : List Value
  bs : List LS
  ms : List LM
  N : View
structure ES.OK (e : ES) (y : YS) (M : View) : Prop where
  h2 : e.bs.map LS.val = y.bs
  h3 : ∀ x ∈ e.bs, LsV e.N x
  h4 : e.ms.map LM.val = y.way
  h5 : ∀ x ∈ e.ms, LmV e.N x
  h6 : SO (some e.rb) e.bs.length e.cb (flat LS.enc e.bs) e.spb 6
  h7 : SF e.rw_ e.ow e.ms.length e.cw e.fr (flat LM.enc e.ms) e.spw 5
  hN : View.le M e.N
theorem SF.rest {wb ow cw : Nat} {Aw : Option Addr} {fr spw : List Value} {x : LM} {xs : List LM} (h : SF (some wb) ow (x :: xs).length cw fr (flat LM.enc (x :: xs)) spw 5) :
    ∃ o' fr' sp', slicedA (bof (some wb) ow Aw) 1 cw 5 = bof (some wb) o' Aw ∧ SF (some wb) o' xs.length (cw - 1) fr' (flat LM.enc xs) sp' 5 ∧ fr ++ (flat LM.enc (x :: xs) ++ spw) = fr' ++ (flat LM.enc xs ++ sp') := by
  have e : flat LM.enc (x :: xs) = LM.enc x ++ flat LM.enc xs := rfl
  by_cases hc : cw = 1
  · have hx : xs = [] := by have := h.hle; rw [List.length_cons] at this; exact List.length_eq_zero_iff.1 (by omega)
    subst hx hc
    have h' : SF (some wb) ow 1 1 fr (LM.enc x) spw 5 := by
      have := h
      rw [e, show flat LM.enc ([] : List LM) = [] from rfl, List.append_nil] at this
      exact this
    exact ⟨ow, fr, LM.enc x ++ spw, by unfold slicedA; rw [if_pos rfl], SF.tail1 h' rfl, by rw [e]; simp [flat]⟩
  · refine ⟨ow + 1 * 5, fr ++ LM.enc x, spw, slicedA_some hc, SF.tail (x := LM.enc x) (by rw [e] at h; exact h) x.enc_length hc, by rw [e]; simp⟩
end Go.Proofs.Ytagmoecojmlogaa
namespace Go.Proofs.Ytagmoecojmlogaa
set_option maxRecDepth 20000
set_option linter.unusedSimpArgs false
set_option linter.unusedVariables false
open Go Go.Fw
attribute [local irreducible] CW OL OD FX Stp FnC FnV FnA FnM Ret svB noneV hz bodyP strOf mvB coordP partP recvP beginP tickP newP mnP dcP tickY dlvY tfsB mskS mskA mskV okT trT amE
set_option maxHeartbeats 8000000
theorem law_ends (M : View) (w : World) (hM : View.le M (View.of w)) {kk o : Int} (hk : 0 ≤ kk ∧ kk ≤ 255) (ho : 0 ≤ o ∧ o ≤ 255) {l other : List C3} {ev : List EV} {a1 a2 a3 : Option Addr} {b1 o1 c1 b2 o2 c2 b3 o3 c3 : Nat}
    (s1 : SlA M C3.enc 3 a1 l b1 o1) (s2 : SlA M C3.enc 3 a2 other b2 o2) (s3 : SlA M EV.enc 2 a3 ev b3 o3) (hev : ∀ e ∈ ev, e.k ≤ 255 ∧ e.w ≤ 65535) :
    FnC Try.prog 7 [.int .u8 kk, .slice a1 l.length c1, .slice a2 other.length c2, .int .u8 o, .slice a3 ev.length c3] w (fun v _ => v = .bool true) := by
  obtain ⟨m, hm, hm8⟩ : ∃ m : Nat, kk % 8 = (m : Nat) ∧ m < 8 := ⟨(kk % 8).toNat, by omega, by omega⟩
  have hn : 1 ≤ 1 + m ∧ 1 + m ≤ 8 := by omega
  have kw := fun (w' : World) => awake_spec w'
  have k1 := fun (w' : World) (h : View.le M (View.of w')) => tfs_spec h hn rfl (c := c1) s1
  have k2 := fun (w' : World) (h : View.le M (View.of w')) => tfs_spec h hn rfl (c := c2) s2
  refine enterF (M := M) Try.func7 rfl rfl rfl rfl hM ?_
  by_cases hel : 60 < ev.length
  ·
    repeat' first
      | apply cw_seq
      | (refine cw_region_id 0 ?_; (apply ol_as; rfl; rfl); (apply ol_nil))
      | (refine cw_region_id 1 ?_; (apply ol_val; rfl; apply s_callv; rfl; exact gf_8; (intro w' hw'; exact kw w')); (apply ol_val; rfl; apply stp_pur; first | (apply s_not_t; rfl; exact qA) | (apply s_not_f; rfl; exact qA) | (apply s_not; rfl)); (apply ol_nil))
      | (refine cw_region_id 3 ?_; (apply ol_mv; rfl; rfl); (apply ol_val; rfl; apply stp_pur; first | (apply s_conv; rfl; rfl; exact ti_3; (focus (apply wrap_i64; omega))) | (apply s_conv; rfl; rfl; exact ti_3; rfl)); (apply ol_val; rfl; apply stp_pur; apply s_remE; rfl; rfl; omega; exact hm); (apply ol_val; rfl; apply stp_pur; apply s_add64; rfl; rfl; omega); (apply ol_as; rfl; rfl); (apply ol_nil))
      | (refine cw_region_id 4 ?_; (apply ol_mv; rfl; rfl); (apply ol_val; rfl; apply stp_pur; apply s_len; rfl; exact el_52); (apply ol_val; rfl; apply stp_cmp; apply s_gtr; rfl; rfl; all_goals (intro hc34; try (exfalso; (first | exact hc34 rfl | omega)))); all_goals (apply ol_mv; rfl; rfl); all_goals (first | (apply ol_gskip; rfl; rfl; exact qA; rfl) | (apply ol_gval; rfl; rfl; rfl; exact qA; apply stp_pur; apply s_move; rfl)); all_goals (first | (apply ol_gskip; rfl; rfl; exact qA; rfl) | (apply ol_gval; rfl; rfl; rfl; exact qA; apply stp_pur; apply s_move; rfl)); all_goals (first | (apply ol_gskip; rfl; rfl; exact qA; rfl) | (apply ol_gval; rfl; rfl; rfl; exact qA; apply s_callv; rfl; exact gf_26; (intro w' hw'; fail))); all_goals (first | (apply ol_gskip; rfl; rfl; exact qA; rfl) | (apply ol_gval; rfl; rfl; rfl; exact qA; apply stp_pur; first | (apply s_not_t; rfl; exact qA) | (apply s_not_f; rfl; exact qA) | (apply s_not; rfl))); all_goals (apply ol_val; rfl; apply stp_pur; first | (apply s_pick_t; rfl; exact qA; rfl) | (apply s_pick_f; rfl; exact qA; rfl)); all_goals (apply ol_mv; rfl; rfl); all_goals (first | (apply ol_gskip; rfl; rfl; exact qA; rfl) | (apply ol_gval; rfl; rfl; rfl; exact qA; apply stp_pur; apply s_move; rfl)); all_goals (first | (apply ol_gskip; rfl; rfl; exact qA; rfl) | (apply ol_gval; rfl; rfl; rfl; exact qA; apply stp_pur; apply s_move; rfl)); all_goals (first | (apply ol_gskip; rfl; rfl; exact qA; rfl) | (apply ol_gval; rfl; rfl; rfl; exact qA; apply s_callv; rfl; exact gf_26; (intro w' hw'; fail))); all_goals (first | (apply ol_gskip; rfl; rfl; exact qA; rfl) | (apply ol_gval; rfl; rfl; rfl; exact qA; apply stp_pur; first | (apply s_not_t; rfl; exact qA) | (apply s_not_f; rfl; exact qA) | (apply s_not; rfl))); all_goals (apply ol_val; rfl; apply stp_pur; first | (apply s_pick_t; rfl; exact qA; rfl) | (apply s_pick_f; rfl; exact qA; rfl)); all_goals (apply ol_nil))
      | (refine cw_region_id 5 ?_; (apply ol_as; rfl; rfl); (apply ol_nil))
      | (apply cw_cond_true; rfl; exact qA)
      | (apply cw_cond_false; rfl; exact qA)
      | apply cw_skip
      | apply cw_ret
      | apply cw_block
      | apply cw_exit
    all_goals (refine ends [] (RVal.tmp rfl RVal.nil) Pick.nil ?_; rfl)
  · cases ht1 : tfsB (1 + m) l with
    | false =>
      rw [ht1] at k1
      repeat' first
        | apply cw_seq
        | (refine cw_region_id 0 ?_; (apply ol_as; rfl; rfl); (apply ol_nil))
        | (refine cw_region_id 1 ?_; (apply ol_val; rfl; apply s_callv; rfl; exact gf_8; (intro w' hw'; exact kw w')); (apply ol_val; rfl; apply stp_pur; first | (apply s_not_t; rfl; exact qA) | (apply s_not_f; rfl; exact qA) | (apply s_not; rfl)); (apply ol_nil))
        | (refine cw_region_id 3 ?_; (apply ol_mv; rfl; rfl); (apply ol_val; rfl; apply stp_pur; first | (apply s_conv; rfl; rfl; exact ti_3; (focus (apply wrap_i64; omega))) | (apply s_conv; rfl; rfl; exact ti_3; rfl)); (apply ol_val; rfl; apply stp_pur; apply s_remE; rfl; rfl; omega; exact hm); (apply ol_val; rfl; apply stp_pur; apply s_add64; rfl; rfl; omega); (apply ol_as; rfl; rfl); (apply ol_nil))
        | (refine cw_region_id 4 ?_; (apply ol_mv; rfl; rfl); (apply ol_val; rfl; apply stp_pur; apply s_len; rfl; exact el_52); (apply ol_val; rfl; apply stp_cmp; apply s_gtr; rfl; rfl; all_goals (intro hc34; try (exfalso; (first | exact hc34 rfl | omega)))); all_goals (apply ol_mv; rfl; rfl); all_goals (first | (apply ol_gskip; rfl; rfl; exact qA; rfl) | (apply ol_gval; rfl; rfl; rfl; exact qA; apply stp_pur; apply s_move; rfl)); all_goals (first | (apply ol_gskip; rfl; rfl; exact qA; rfl) | (apply ol_gval; rfl; rfl; rfl; exact qA; apply stp_pur; apply s_move; rfl)); all_goals (first | (apply ol_gskip; rfl; rfl; exact qA; rfl) | (apply ol_gval; rfl; rfl; rfl; exact qA; apply s_callv; rfl; exact gf_26; (intro w' hw'; exact k1 w' hw'.le))); all_goals (first | (apply ol_gskip; rfl; rfl; exact qA; rfl) | (apply ol_gval; rfl; rfl; rfl; exact qA; apply stp_pur; first | (apply s_not_t; rfl; exact qA) | (apply s_not_f; rfl; exact qA) | (apply s_not; rfl))); all_goals (apply ol_val; rfl; apply stp_pur; first | (apply s_pick_t; rfl; exact qA; rfl) | (apply s_pick_f; rfl; exact qA; rfl)); all_goals (apply ol_mv; rfl; rfl); all_goals (first | (apply ol_gskip; rfl; rfl; exact qA; rfl) | (apply ol_gval; rfl; rfl; rfl; exact qA; apply stp_pur; apply s_move; rfl)); all_goals (first | (apply ol_gskip; rfl; rfl; exact qA; rfl) | (apply ol_gval; rfl; rfl; rfl; exact qA; apply stp_pur; apply s_move; rfl)); all_goals (first | (apply ol_gskip; rfl; rfl; exact qA; rfl) | (apply ol_gval; rfl; rfl; rfl; exact qA; apply s_callv; rfl; exact gf_26; (intro w' hw'; exact k1 w' hw'.le))); all_goals (first | (apply ol_gskip; rfl; rfl; exact qA; rfl) | (apply ol_gval; rfl; rfl; rfl; exact qA; apply stp_pur; first | (apply s_not_t; rfl; exact qA) | (apply s_not_f; rfl; exact qA) | (apply s_not; rfl))); all_goals (apply ol_val; rfl; apply stp_pur; first | (apply s_pick_t; rfl; exact qA; rfl) | (apply s_pick_f; rfl; exact qA; rfl)); all_goals (apply ol_nil))
        | (refine cw_region_id 5 ?_; (apply ol_as; rfl; rfl); (apply ol_nil))
        | (apply cw_cond_true; rfl; exact qA)
        | (apply cw_cond_false; rfl; exact qA)
        | apply cw_skip
        | apply cw_ret
        | apply cw_block
        | apply cw_exit
      all_goals (refine ends [] (RVal.tmp rfl RVal.nil) Pick.nil ?_; rfl)
    | true =>
      rw [ht1] at k1
      cases ht2 : tfsB (1 + m) other with
      | false =>
        rw [ht2] at k2
        repeat' first
          | apply cw_seq
          | (refine cw_region_id 0 ?_; (apply ol_as; rfl; rfl); (apply ol_nil))
          | (refine cw_region_id 1 ?_; (apply ol_val; rfl; apply s_callv; rfl; exact gf_8; (intro w' hw'; exact kw w')); (apply ol_val; rfl; apply stp_pur; first | (apply s_not_t; rfl; exact qA) | (apply s_not_f; rfl; exact qA) | (apply s_not; rfl)); (apply ol_nil))
          | (refine cw_region_id 3 ?_; (apply ol_mv; rfl; rfl); (apply ol_val; rfl; apply stp_pur; first | (apply s_conv; rfl; rfl; exact ti_3; (focus (apply wrap_i64; omega))) | (apply s_conv; rfl; rfl; exact ti_3; rfl)); (apply ol_val; rfl; apply stp_pur; apply s_remE; rfl; rfl; omega; exact hm); (apply ol_val; rfl; apply stp_pur; apply s_add64; rfl; rfl; omega); (apply ol_as; rfl; rfl); (apply ol_nil))
          | (refine cw_region_id 4 ?_; (apply ol_mv; rfl; rfl); (apply ol_val; rfl; apply stp_pur; apply s_len; rfl; exact el_52); (apply ol_val; rfl; apply stp_cmp; apply s_gtr; rfl; rfl; all_goals (intro hc34; try (exfalso; (first | exact hc34 rfl | omega)))); all_goals (apply ol_mv; rfl; rfl); all_goals (first | (apply ol_gskip; rfl; rfl; exact qA; rfl) | (apply ol_gval; rfl; rfl; rfl; exact qA; apply stp_pur; apply s_move; rfl)); all_goals (first | (apply ol_gskip; rfl; rfl; exact qA; rfl) | (apply ol_gval; rfl; rfl; rfl; exact qA; apply stp_pur; apply s_move; rfl)); all_goals (first | (apply ol_gskip; rfl; rfl; exact qA; rfl) | (apply ol_gval; rfl; rfl; rfl; exact qA; apply s_callv; rfl; exact gf_26; (intro w' hw'; first | exact k1 w' hw'.le | exact k2 w' hw'.le))); all_goals (first | (apply ol_gskip; rfl; rfl; exact qA; rfl) | (apply ol_gval; rfl; rfl; rfl; exact qA; apply stp_pur; first | (apply s_not_t; rfl; exact qA) | (apply s_not_f; rfl; exact qA) | (apply s_not; rfl))); all_goals (apply ol_val; rfl; apply stp_pur; first | (apply s_pick_t; rfl; exact qA; rfl) | (apply s_pick_f; rfl; exact qA; rfl)); all_goals (apply ol_mv; rfl; rfl); all_goals (first | (apply ol_gskip; rfl; rfl; exact qA; rfl) | (apply ol_gval; rfl; rfl; rfl; exact qA; apply stp_pur; apply s_move; rfl)); all_goals (first | (apply ol_gskip; rfl; rfl; exact qA; rfl) | (apply ol_gval; rfl; rfl; rfl; exact qA; apply stp_pur; apply s_move; rfl)); all_goals (first | (apply ol_gskip; rfl; rfl; exact qA; rfl) | (apply ol_gval; rfl; rfl; rfl; exact qA; apply s_callv; rfl; exact gf_26; (intro w' hw'; first | exact k1 w' hw'.le | exact k2 w' hw'.le))); all_goals (first | (apply ol_gskip; rfl; rfl; exact qA; rfl) | (apply ol_gval; rfl; rfl; rfl; exact qA; apply stp_pur; first | (apply s_not_t; rfl; exact qA) | (apply s_not_f; rfl; exact qA) | (apply s_not; rfl))); all_goals (apply ol_val; rfl; apply stp_pur; first | (apply s_pick_t; rfl; exact qA; rfl) | (apply s_pick_f; rfl; exact qA; rfl)); all_goals (apply ol_nil))
          | (refine cw_region_id 5 ?_; (apply ol_as; rfl; rfl); (apply ol_nil))
          | (apply cw_cond_true; rfl; exact qA)
          | (apply cw_cond_false; rfl; exact qA)
          | apply cw_skip
          | apply cw_ret
          | apply cw_block
          | apply cw_exit
        all_goals (refine ends [] (RVal.tmp rfl RVal.nil) Pick.nil ?_; rfl)
      | true =>
        rw [ht2] at k2
        have kS := fun (w' : World) (h : View.le M (View.of w')) => start_spec h hn rfl rfl (c1 := c1) (c2 := c2) s1 s2 ht1 ht2 ho
        have hT := (okT_iff ho hn l other).1
        have hl10 : l.length ≤ 10 := by unfold tfsB at ht1; rw [Bool.and_eq_true, decide_eq_true_iff] at ht1; exact ht1.1
        unfold StartR at kS
        repeat' first
          | apply cw_seq
          | (refine cw_region_id 0 ?_; (apply ol_as; rfl; rfl); (apply ol_nil))
          | (refine cw_region_id 1 ?_; (apply ol_val; rfl; apply s_callv; rfl; exact gf_8; (intro w' hw'; exact kw w')); (apply ol_val; rfl; apply stp_pur; first | (apply s_not_t; rfl; exact qA) | (apply s_not_f; rfl; exact qA) | (apply s_not; rfl)); (apply ol_nil))
          | (refine cw_region_id 3 ?_; (apply ol_mv; rfl; rfl); (apply ol_val; rfl; apply stp_pur; first | (apply s_conv; rfl; rfl; exact ti_3; (focus (apply wrap_i64; omega))) | (apply s_conv; rfl; rfl; exact ti_3; rfl)); (apply ol_val; rfl; apply stp_pur; apply s_remE; rfl; rfl; omega; exact hm); (apply ol_val; rfl; apply stp_pur; apply s_add64; rfl; rfl; omega); (apply ol_as; rfl; rfl); (apply ol_nil))
          | (refine cw_region_id 4 ?_; (apply ol_mv; rfl; rfl); (apply ol_val; rfl; apply stp_pur; apply s_len; rfl; exact el_52); (apply ol_val; rfl; apply stp_cmp; apply s_gtr; rfl; rfl; all_goals (intro hc34; try (exfalso; (first | exact hc34 rfl | omega)))); all_goals (apply ol_mv; rfl; rfl); all_goals (first | (apply ol_gskip; rfl; rfl; exact qA; rfl) | (apply ol_gval; rfl; rfl; rfl; exact qA; apply stp_pur; apply s_move; rfl)); all_goals (first | (apply ol_gskip; rfl; rfl; exact qA; rfl) | (apply ol_gval; rfl; rfl; rfl; exact qA; apply stp_pur; apply s_move; rfl)); all_goals (first | (apply ol_gskip; rfl; rfl; exact qA; rfl) | (apply ol_gval; rfl; rfl; rfl; exact qA; apply s_callv; rfl; exact gf_26; (intro w' hw'; first | exact k1 w' hw'.le | exact k2 w' hw'.le))); all_goals (first | (apply ol_gskip; rfl; rfl; exact qA; rfl) | (apply ol_gval; rfl; rfl; rfl; exact qA; apply stp_pur; first | (apply s_not_t; rfl; exact qA) | (apply s_not_f; rfl; exact qA) | (apply s_not; rfl))); all_goals (apply ol_val; rfl; apply stp_pur; first | (apply s_pick_t; rfl; exact qA; rfl) | (apply s_pick_f; rfl; exact qA; rfl)); all_goals (apply ol_mv; rfl; rfl); all_goals (first | (apply ol_gskip; rfl; rfl; exact qA; rfl) | (apply ol_gval; rfl; rfl; rfl; exact qA; apply stp_pur; apply s_move; rfl)); all_goals (first | (apply ol_gskip; rfl; rfl; exact qA; rfl) | (apply ol_gval; rfl; rfl; rfl; exact qA; apply stp_pur; apply s_move; rfl)); all_goals (first | (apply ol_gskip; rfl; rfl; exact qA; rfl) | (apply ol_gval; rfl; rfl; rfl; exact qA; apply s_callv; rfl; exact gf_26; (intro w' hw'; first | exact k1 w' hw'.le | exact k2 w' hw'.le))); all_goals (first | (apply ol_gskip; rfl; rfl; exact qA; rfl) | (apply ol_gval; rfl; rfl; rfl; exact qA; apply stp_pur; first | (apply s_not_t; rfl; exact qA) | (apply s_not_f; rfl; exact qA) | (apply s_not; rfl))); all_goals (apply ol_val; rfl; apply stp_pur; first | (apply s_pick_t; rfl; exact qA; rfl) | (apply s_pick_f; rfl; exact qA; rfl)); all_goals (apply ol_nil))
          | (refine cw_region_id 6 ?_; (apply ol_mv; rfl; rfl); (apply ol_mv; rfl; rfl); (apply ol_mv; rfl; rfl); (apply ol_mv; rfl; rfl); (apply ol_val; rfl; apply s_callM (xs := []); rfl; exact gf_27; (focus ((repeat (first | exact Pk.nil | (apply Pk.cons; (repeat (first | exact Spl.here | apply Spl.there))))); done)); (intro w' M2 hw' hrd; exact kS w' hw'.le); (intro v F52 ys M52 h hl52 hL52 hF52; obtain ⟨rb, cb, spb, rw', Aw, cw, spw, bs, ms, rfl, rfl, hI, h8, h6, h7, hLM⟩ := h)); (apply ol_mv; rfl; rfl); (apply ol_ex; rfl; rfl; rfl); (apply ol_ex; rfl; rfl; rfl); (apply ol_val; rfl; apply s_alloc; exact zb_56; exact qN; intro bk12); (apply ol_eff; apply s_storeN; rfl; rfl; exact sz_56; rfl; rfl; exact qN; exact qN); (apply ol_as; rfl; rfl); (apply ol_nil))
          | (refine cw_region_id 7 ?_; (apply ol_mv; rfl; rfl); (apply ol_val; rfl; apply stp_pur; first | (apply s_not_t; rfl; exact qA) | (apply s_not_f; rfl; exact qA) | (apply s_not; rfl)); (apply ol_nil))
          | (apply cw_cond_true; rfl; exact qA)
          | (apply cw_cond_false; rfl; exact qA)
          | apply cw_skip
          | apply cw_ret
          | apply cw_block
          | apply cw_exit
        have kE := fun (p : Bool) (hp : decide (l = other) = p) (w' : World) (h : View.le M (View.of w')) => eqTr_spec h rfl rfl hp (c1 := c1) (c2 := c2) s1 s2 (by omega)
        have hV : View.le (View.join F52 M) M52 := View.join_le hL52 hl52
        have hVM : View.le M (View.join F52 M) := View.join_r hL52 hl52
        have hh := hLM (View.join F52 M) hVM (View.join_l _ _)
        have kP := fun (ok : Bool) (hok : okT o (1 + m) l other = ok) (w' : World) (h : View.le M52 (View.of w')) xs hx1 hx2 hx3 hx4 => play_spec (M := View.join F52 M) (w := w') (sb := bk12) (y := ⟨bs.map LS.val, ms.map LM.val⟩) (xs := xs) (hV.trans h) (⟨rb, cb, spb, rw', 0, Aw, cw, [], spw, bs, ms, hx1, rfl, hh.1, rfl, hh.2, h6, h7⟩) hx2 hx3 hx4 (ok := ok) (hok ▸ hI) (hok ▸ hT) (by dsimp only; rw [List.length_map]; omega) rfl (by omega) (s3.mono hVM) (ec := c3) hev
        rcases okT_cases o (1 + m) l other with ⟨p1, p2⟩ | ⟨p1, q1, p2⟩ | ⟨p1, q1, q2, p2⟩ | ⟨p1, q1, q2, p2⟩
        all_goals
          repeat' first
            | apply cw_seq
            | (refine cw_region_id 9 ?_; (apply ol_mv; rfl; rfl); (apply ol_val; rfl; apply stp_pur; apply s_shlF; rfl; rfl; (first | decide | omega | (simp [IntKind.bits]; omega) | (simp [IntKind.bits]; done)); exact mskS_eq m); (apply ol_val; rfl; apply stp_pur; apply s_subW; rfl; rfl); (apply ol_as; rfl; rfl); (apply ol_nil))
            | (refine cw_region_id 10 ?_; (apply ol_mv; rfl; rfl); (apply ol_mv; rfl; rfl); (apply ol_val; rfl; apply s_callv; rfl; exact gf_28; (intro w' hw'; first | exact kE true p1 w' (hl52.trans hw'.le) | exact kE false p1 w' (hl52.trans hw'.le))); (apply ol_mv; rfl; rfl); (first | (apply ol_gskip; rfl; rfl; exact qA; rfl) | (apply ol_gval; rfl; rfl; rfl; exact qA; apply stp_pur; apply s_move; rfl)); (first | (apply ol_gskip; rfl; rfl; exact qA; rfl) | (apply ol_gval; rfl; rfl; rfl; exact qA; apply stp_pur; apply s_move; rfl)); (first | (apply ol_gskip; rfl; rfl; exact qA; rfl) | (apply ol_gval; rfl; rfl; rfl; exact qA; apply stp_pur; apply s_andE; rfl; rfl; exact mskA_eq o (1 + m))); (first | (apply ol_gskip; rfl; rfl; exact qA; rfl) | (apply ol_gval; rfl; rfl; rfl; exact qA; apply stp_cmp; apply s_eql; rfl; rfl; all_goals (intro hc67; try (exfalso; (first | exact hc67 rfl | omega))))); all_goals (apply ol_val; rfl; apply stp_pur; first | (apply s_pick_t; rfl; exact qA; rfl) | (apply s_pick_f; rfl; exact qA; rfl)); all_goals (apply ol_mv; rfl; rfl); all_goals (first | (apply ol_gskip; rfl; rfl; exact qA; rfl) | (apply ol_gval; rfl; rfl; rfl; exact qA; apply stp_pur; apply s_move; rfl)); all_goals (first | (apply ol_gskip; rfl; rfl; exact qA; rfl) | (apply ol_gval; rfl; rfl; rfl; exact qA; apply stp_pur; apply s_move; rfl)); all_goals (first | (apply ol_gskip; rfl; rfl; exact qA; rfl) | (apply ol_gval; rfl; rfl; rfl; exact qA; apply stp_pur; apply s_andE; rfl; rfl; exact mskA_eq o (1 + m))); all_goals (first | (apply ol_gskip; rfl; rfl; exact qA; rfl) | (apply ol_gval; rfl; rfl; rfl; exact qA; apply stp_pur; apply s_move; rfl)); all_goals (first | (apply ol_gskip; rfl; rfl; exact qA; rfl) | (apply ol_gval; rfl; rfl; rfl; exact qA; apply stp_cmp; apply s_eql; rfl; rfl; all_goals (intro hc74; try (exfalso; (first | exact hc74 rfl | omega))))); all_goals (apply ol_val; rfl; apply stp_pur; first | (apply s_pick_t; rfl; exact qA; rfl) | (apply s_pick_f; rfl; exact qA; rfl)); all_goals (apply ol_as; rfl; rfl); all_goals (apply ol_nil))
            | (refine cw_region_id 11 ?_; (apply ol_mv; rfl; rfl); (apply ol_mv; rfl; rfl); (apply ol_val; rfl; apply s_callM (xs := [⟨some bk12, [.slice (some ⟨rb, 0, none⟩) bs.length cb, .slice (bof rw' 0 Aw) ms.length cw], 56⟩, ⟨some rb, flat LS.enc bs ++ spb, 25⟩, ⟨rw', [] ++ (flat LM.enc ms ++ spw), 28⟩]); rfl; exact gf_29; (focus ((repeat (first | exact Pk.nil | (apply Pk.cons; (repeat (first | exact Spl.here | apply Spl.there))))); done)); (intro w' M2 hw' hrd; first | exact kP true p2 w' hw'.le _ rfl hrd.ok (fun x hx b hb => View.none_of (hV.trans hrd.le) (hrd.sep x hx b hb)) hrd.nd | exact kP false p2 w' hw'.le _ rfl hrd.ok (fun x hx b hb => View.none_of (hV.trans hrd.le) (hrd.sep x hx b hb)) hrd.nd); (intro v F78 ys M78 h hl78 hL78 hF78; obtain ⟨rfl, y', hI', hw2, hN⟩ := h)); (apply ol_val; rfl; apply stp_pur; first | (apply s_not_t; rfl; exact qA) | (apply s_not_f; rfl; exact qA) | (apply s_not; rfl)); (apply ol_nil))
            | (refine cw_region_id 13 ?_; (apply ol_mv; rfl; rfl); (apply ol_nil))
            | (apply cw_cond_true; rfl; exact qA)
            | (apply cw_cond_false; rfl; exact qA)
            | apply cw_skip
            | apply cw_ret
            | apply cw_block
            | apply cw_exit
          clear kE kP kw k1 k2 hh hI hLM kS h6 h7
          obtain ⟨rb', cb', spb', rw'', ow', Aw', cw', fr', spw', bs', ms', rfl, h2, h3, h4, h5, h6, h7⟩ := hN M78 (hV.trans hl78) hL78
          clear hN
          rw [← p2] at hI'
          have hbl' : bs'.length = 1 + m := by rw [← hI'.len, ← h2, List.length_map]
          refine cw_loopK (σ := Nat × YS × ES) [12, 15] (by (repeat (first | exact Keep.nil | (apply Keep.cons; rfl)))) (fun s => [(80, .int .i64 s.1)]) (fun s => s.2.2.N) (fun s => [⟨some bk12, [.slice (some ⟨s.2.2.rb, 0, none⟩) s.2.2.bs.length s.2.2.cb, .slice (bof s.2.2.rw_ s.2.2.ow s.2.2.Aw) s.2.2.ms.length s.2.2.cw], 56⟩, ⟨some s.2.2.rb, flat LS.enc s.2.2.bs ++ s.2.2.spb, 25⟩, ⟨s.2.2.rw_, s.2.2.fr ++ (flat LM.enc s.2.2.ms ++ s.2.2.spw), 28⟩]) (fun s => (s.1 ≤ 4 ∧ Inv (1 + m) (trT o l other) (okT o (1 + m) l other) s.2.1 ∧ s.2.1.way.length ≤ 200 ∧ (1 ≤ s.1 → (bank s.2.1 0).ph = 4 ∨ (bank s.2.1 0).ph = 5)) ∧ ES.OK s.2.2 s.2.1 M) (fun s => 4 - s.1) (0, y', ⟨rb', cb', spb', rw'', ow', Aw', cw', fr', spw', bs', ms', M78⟩) (by (repeat (first | exact trivial | refine And.intro rfl ?_))) (View.le.refl _) (by exact qK) ⟨⟨Nat.zero_le _, hI', hw2, fun h => absurd (show 1 ≤ 0 from h) (by decide)⟩, ⟨h2, h3, h4, h5, h6, h7, hl52.trans hl78⟩⟩ ?_
          clear hI' h2 h3 h4 h5 h6 h7 hw2
          rintro ⟨r, y, ⟨rb, cb, spb, rw_, ow, Aw, cw, fr, spw, bs, ms, N⟩⟩ ⟨⟨hr, hI, hw, hph⟩, ⟨h2, h3, h4, h5, h6, h7, hN⟩⟩
          dsimp only at hr hI hw hph h2 h3 h4 h5 h6 h7 hN ⊢
          have hbl : bs.length = 1 + m := by rw [← hI.len, ← h2, List.length_map]
          by_cases hr4 : r < 4
          ·
            repeat' first
              | apply cw_seq
              | (refine cw_region_id 14 ?_; (apply ol_val; rfl; apply stp_cmp; apply s_lss; rfl; rfl; all_goals (intro hc81; try (exfalso; (first | exact hc81 rfl | omega)))); all_goals (apply ol_nil))
              | (refine cw_region_id 15 ?_; (apply ol_fa; rfl; rfl; exact fd_56_0; exact qZ); (apply ol_ld; rfl; rfl; rfl; exact qP); (apply ol_val; rfl; apply stp_pur; apply s_len; rfl; exact el_54); (apply ol_mv; rfl; rfl); (apply ol_nil))
              | (apply cw_cond_true; rfl; exact qA)
              | (apply cw_cond_false; rfl; exact qA)
              | apply cw_skip
              | apply cw_ret
              | apply cw_block
              | apply cw_exit
            refine cw_loopK (σ := Nat × YS × ES) [12, 15, 80, 84] (by (repeat (first | exact Keep.nil | (apply Keep.cons; rfl)))) (fun s => [(85, .int .i64 s.1)]) (fun s => s.2.2.N) (fun s => [⟨some bk12, [.slice (some ⟨s.2.2.rb, 0, none⟩) s.2.2.bs.length s.2.2.cb, .slice (bof s.2.2.rw_ s.2.2.ow s.2.2.Aw) s.2.2.ms.length s.2.2.cw], 56⟩, ⟨some s.2.2.rb, flat LS.enc s.2.2.bs ++ s.2.2.spb, 25⟩, ⟨s.2.2.rw_, s.2.2.fr ++ (flat LM.enc s.2.2.ms ++ s.2.2.spw), 28⟩]) (fun s => (s.1 ≤ 1 + m ∧ Inv (1 + m) (trT o l other) (okT o (1 + m) l other) s.2.1 ∧ s.2.1.way.length ≤ 200 + 8 * s.1 ∧ wts s.2.1.way ≤ 800 + (if s.1 = 0 then 0 else 28 + 4 * s.1) ∧ (1 ≤ s.1 → Jn (1 + m) s.2.1)) ∧ ES.OK s.2.2 s.2.1 M) (fun s => 1 + m - s.1) (0, y, ⟨rb, cb, spb, rw_, ow, Aw, cw, fr, spw, bs, ms, N⟩) (by (repeat (first | exact trivial | refine And.intro rfl ?_))) (View.le.refl _) (by exact qK) ⟨⟨Nat.zero_le _, hI, by dsimp only; omega, by have := hI.w4; dsimp only; rw [if_pos rfl]; omega, fun h => absurd (show 1 ≤ 0 from h) (by decide)⟩, ⟨h2, h3, h4, h5, h6, h7, hN⟩⟩ ?_
            clear hI h2 h3 h4 h5 h6 h7 hw hN hph
            rintro ⟨i, y, ⟨rb2, cb2, spb2, rw2, ow2, Aw2, cw2, fr2, spw2, bs2, ms2, N2⟩⟩ ⟨⟨hi, hI, hw, hwt, hJ⟩, ⟨h2, h3, h4, h5, h6, h7, hN⟩⟩
            dsimp only at hi hI hw hwt hJ h2 h3 h4 h5 h6 h7 hN ⊢
            have hbl2 : bs2.length = 1 + m := by rw [← hI.len, ← h2, List.length_map]
            by_cases hin : i < 1 + m
            · obtain ⟨ht, hJ0, hJ1⟩ := hI.tick hin
              have hte := ht.e
              have htl := ht.l
              have htw := ht.w
              have hjb : i < y.bs.length := by rw [hI.len]; exact hin
              rw [← hI.len] at htl
              have hbn : y.bs.length ≤ 8 := by rw [hI.len]; omega
              repeat' first
                | apply cw_seq
                | (refine cw_region_id 16 ?_; (apply ol_val; rfl; apply stp_cmp; apply s_lss; rfl; rfl; all_goals (intro hc86; try (exfalso; (first | exact hc86 rfl | omega)))); all_goals (apply ol_nil))
                | (refine cw_region_id 17 ?_; (apply ol_mv; rfl; rfl); (apply ol_as; rfl; rfl); (apply ol_nil))
                | (refine cw_region_id 18 ?_; (apply ol_mv; rfl; rfl); (apply ol_val; rfl; apply s_callM (xs := [⟨some bk12, [.slice (some ⟨rb2, 0, none⟩) bs2.length cb2, .slice (bof rw2 ow2 Aw2) ms2.length cw2], 56⟩, ⟨some rb2, flat LS.enc bs2 ++ spb2, 25⟩, ⟨rw2, fr2 ++ (flat LM.enc ms2 ++ spw2), 28⟩]); rfl; exact gf_30; (focus ((repeat (first | exact Pk.nil | (apply Pk.cons; (repeat (first | exact Spl.here | apply Spl.there))))); done)); (intro w' M2 hw' hrd; exact tick_sys (M := N2) (i := i) hw'.le ⟨rb2, cb2, spb2, rw2, ow2, Aw2, cw2, fr2, spw2, bs2, ms2, rfl, h2, h3, h4, h5, h6, h7⟩ hrd.ok (fun x hx b hb => View.none_of hrd.le (hrd.sep x hx b hb)) hrd.nd hjb hte htl hbn (by omega)); (intro v F89 ys M89 h hl89 hL89 hF89; obtain ⟨rfl, hP⟩ := h; obtain ⟨rb3, cb3, spb3, rw3, ow3, Aw3, cw3, fr3, spw3, bs3, ms3, rfl, g2, g3, g4, g5, g6, g7⟩ := hP M89 hl89 hL89)); (apply ol_val; rfl; apply stp_pur; first | (apply s_not_t; rfl; exact qA) | (apply s_not_f; rfl; exact qA) | (apply s_not; rfl)); (apply ol_nil))
                | (refine cw_region_id 20 ?_; (apply ol_val; rfl; apply stp_pur; apply s_add64; rfl; rfl; omega); (apply ol_mv; rfl; rfl); (apply ol_nil))
                | (apply cw_cond_true; rfl; exact qA)
                | (apply cw_cond_false; rfl; exact qA)
                | apply cw_skip
                | apply cw_ret
                | apply cw_block
                | apply cw_exit
              refine ⟨(i + 1, tickY y i, ⟨rb3, cb3, spb3, rw3, ow3, Aw3, cw3, fr3, spw3, bs3, ms3, M89⟩), ⟨by (repeat (first | exact trivial | refine And.intro rfl ?_)), View.le.refl _, by exact qK, ⟨⟨hin, ht.inv, ?_, ?_, fun _ => ?_⟩, ⟨g2, g3, g4, g5, g6, g7, hN.trans hl89⟩⟩, by dsimp only; omega⟩⟩
              · dsimp only
                have e : (tickY y i).way.length = y.way.length + (tickP (bank y i)).2.1.length := by unfold tickY; exact List.length_append
                have := hI.len
                omega
              · dsimp only
                rw [if_neg (by omega)]
                by_cases h0 : i = 0
                · rw [if_pos h0] at htw hwt; omega
                · rw [if_neg h0] at htw hwt; omega
              · by_cases h0 : i = 0
                · exact hJ0 h0
                · exact hJ1 (hJ (by omega))
            · obtain rfl : i = 1 + m := by omega
              rw [if_neg (by omega)] at hwt
              have hJ := hJ (by omega)
              repeat' first
                | apply cw_seq
                | (refine cw_region_id 16 ?_; (apply ol_val; rfl; apply stp_cmp; apply s_lss; rfl; rfl; all_goals (intro hc86; try (exfalso; (first | exact hc86 rfl | omega)))); all_goals (apply ol_nil))
                | (refine cw_region_id 21 ?_; (apply ol_as; rfl; rfl); (apply ol_nil))
                | (apply cw_cond_true; rfl; exact qA)
                | (apply cw_cond_false; rfl; exact qA)
                | apply cw_skip
                | apply cw_ret
                | apply cw_block
                | apply cw_exit
              refine cw_loopK (σ := Nat × YS × ES) [12, 15, 80] (by (repeat (first | exact Keep.nil | (apply Keep.cons; rfl)))) (fun s => [(17, .int .i64 s.1)]) (fun s => s.2.2.N) (fun s => [⟨some bk12, [.slice (some ⟨s.2.2.rb, 0, none⟩) s.2.2.bs.length s.2.2.cb, .slice (bof s.2.2.rw_ s.2.2.ow s.2.2.Aw) s.2.2.ms.length s.2.2.cw], 56⟩, ⟨some s.2.2.rb, flat LS.enc s.2.2.bs ++ s.2.2.spb, 25⟩, ⟨s.2.2.rw_, s.2.2.fr ++ (flat LM.enc s.2.2.ms ++ s.2.2.spw), 28⟩]) (fun s => (Inv (1 + m) (trT o l other) (okT o (1 + m) l other) s.2.1 ∧ Jn (1 + m) s.2.1 ∧ wts s.2.1.way + pot (bank s.2.1 0).ph + s.1 ≤ 876) ∧ ES.OK s.2.2 s.2.1 M) (fun s => 877 - s.1) (0, y, ⟨rb2, cb2, spb2, rw2, ow2, Aw2, cw2, fr2, spw2, bs2, ms2, N2⟩) (by (repeat (first | exact trivial | refine And.intro rfl ?_))) (View.le.refl _) (by exact qK) ⟨⟨hI, hJ, by have := pot_le (bank y 0).ph; dsimp only; omega⟩, ⟨h2, h3, h4, h5, h6, h7, hN⟩⟩ ?_
              clear hI h2 h3 h4 h5 h6 h7 hw hN hJ hwt hbl2
              rintro ⟨k, ⟨yb, yw⟩, ⟨rb2, cb2, spb2, rw2, ow2, Aw2, cw2, fr2, spw2, bs2, ms2, N2⟩⟩ ⟨⟨hI, hJ, hwt⟩, ⟨h2, h3, h4, h5, h6, h7, hN⟩⟩
              dsimp only at hI hJ hwt h2 h3 h4 h5 h6 h7 hN ⊢
              subst h4
              have hwl := hI.wle
              dsimp only at hwl
              rw [List.length_map] at hwl
              cases ms2 with
              | nil =>
                have hd := Jn.done (y := ⟨yb, []⟩) hI hJ
                rw [List.length_nil]
                repeat' first
                  | apply cw_seq
                  | (refine cw_region_id 22 ?_; (apply ol_fa; rfl; rfl; exact fd_56_1; exact qZ); (apply ol_ld; rfl; rfl; rfl; exact qP); (apply ol_val; rfl; apply stp_pur; apply s_len; rfl; exact el_31); (apply ol_val; rfl; apply stp_cmp; apply s_gtr; rfl; rfl; all_goals (intro hc95; try (exfalso; (first | exact hc95 rfl | omega)))); all_goals (apply ol_mv; rfl; rfl); all_goals (first | (apply ol_gskip; rfl; rfl; exact qA; rfl) | (apply ol_gval; rfl; rfl; rfl; exact qA; apply stp_pur; apply s_move; rfl)); all_goals (first | (apply ol_gskip; rfl; rfl; exact qA; rfl) | (apply ol_gval; rfl; rfl; rfl; exact qA; apply stp_cmp; apply s_lss; rfl; rfl; all_goals (intro hc98; try (exfalso; (first | exact hc98 rfl | omega))))); all_goals (apply ol_val; rfl; apply stp_pur; first | (apply s_pick_t; rfl; exact qA; rfl) | (apply s_pick_f; rfl; exact qA; rfl)); all_goals (apply ol_nil))
                  | (refine cw_region_id 28 ?_; (apply ol_val; rfl; apply stp_pur; apply s_add64; rfl; rfl; omega); (apply ol_mv; rfl; rfl); (apply ol_nil))
                  | (apply cw_cond_true; rfl; exact qA)
                  | (apply cw_cond_false; rfl; exact qA)
                  | apply cw_skip
                  | apply cw_ret
                  | apply cw_block
                  | apply cw_exit
                exact ⟨(r + 1, ⟨yb, []⟩, ⟨rb2, cb2, spb2, rw2, ow2, Aw2, cw2, fr2, spw2, bs2, [], N2⟩), ⟨by (repeat (first | exact trivial | refine And.intro rfl ?_)), View.le.refl _, by exact qK, ⟨⟨hr4, hI, Nat.zero_le _, fun _ => hd⟩, ⟨h2, h3, rfl, h5, h6, h7, hN⟩⟩, by dsimp only; omega⟩⟩
              | cons x xs =>
                rw [List.length_cons] at hwl
                obtain ⟨wb, rfl⟩ : ∃ b, rw2 = some b := by
                  cases rw2 with
                  | none => exact absurd (h7.empty rfl) (by rw [List.length_cons]; omega)
                  | some b => exact ⟨b, rfl⟩
                obtain ⟨o', fr', sp', e1, e2, e3⟩ := SF.rest (Aw := Aw2) h7
                have hle := h7.hle
                rw [List.length_cons] at hle
                have hgm := getN_row LM.enc_length (sp := spw2) h7.hfr (i := 0) (by simp : 0 < (x :: xs).length)
                have hmk := hI.ms _ (List.mem_cons_self ..)
                have hs := hI.sub (l := xs.map LM.val) (fun m hm => List.mem_cons_of_mem _ hm)
                have hd := hs.dlv hmk
                have hJd := Jn.dlv (y := ⟨yb, []⟩) hI hJ
                have hwd := hd.w
                have hwc : wts ((x :: xs).map LM.val) = wt x.val + wts (xs.map LM.val) := rfl
                have hpt : pot (bank ⟨yb, xs.map LM.val⟩ 0).ph = pot (bank ⟨yb, (x :: xs).map LM.val⟩ 0).ph := rfl
                obtain ⟨i0, hi0, hto0, he0, hl0⟩ := hd.at_
                have hmv := h5 x (List.mem_cons_self ..)
                have h5' : ∀ z ∈ xs, LmV N2 z := fun z hz => h5 z (List.mem_cons_of_mem _ hz)
                dsimp only [List.getElem_cons_zero] at hgm hwd
                have hbn := hs.len
                dsimp only at hbn
                obtain ⟨mf, mt, mk, mn, ⟨mb, ba, bb, bo, bc⟩⟩ := x
                generalize hfl : flat LM.enc ((⟨mf, mt, mk, mn, ⟨mb, ba, bb, bo, bc⟩⟩ : LM) :: xs) ++ spw2 = fl at *
                unfold LM.enc at hgm
                dsimp only at hgm
                have hbl3 : 1 + m = yb.length := hbn.symm
                have hmv' : LmV N2 ⟨mf, mt, mk, mn, ⟨mb, ba, bb, bo, bc⟩⟩ := hmv
                have kdl := fun (w' : World) (h : View.le N2 (View.of w')) zs hz1 hz2 hz3 hz4 => deliver_sys (M := N2) (w := w') (sb := bk12) (y := ⟨yb, xs.map LM.val⟩) (xs := zs) (m := ⟨mf, mt, mk, mn, ⟨mb, ba, bb, bo, bc⟩⟩) h ⟨rb2, cb2, spb2, some wb, o', Aw2, cw2 - 1, fr', sp', bs2, xs, hz1, h2, h3, rfl, h5', h6, e2⟩ hz2 hz3 hz4 hmv' (i := i0) (by rw [hbl3] at hi0; exact hi0) hto0 he0 (by rw [hbl3] at hl0; exact hl0) (by dsimp only; omega) (by dsimp only; rw [List.length_map]; omega)
                rw [List.length_cons]
                repeat' first
                  | apply cw_seq
                  | (refine cw_region_id 22 ?_; (apply ol_fa; rfl; rfl; exact fd_56_1; exact qZ); (apply ol_ld; rfl; rfl; rfl; (first | exact qP | (apply RdN.own; exact qN; exact hgm))); (apply ol_val; rfl; apply stp_pur; apply s_len; rfl; exact el_31); (apply ol_val; rfl; apply stp_cmp; apply s_gtr; rfl; rfl; all_goals (intro hc95; try (exfalso; (first | exact hc95 rfl | omega)))); all_goals (apply ol_mv; rfl; rfl); all_goals (first | (apply ol_gskip; rfl; rfl; exact qA; rfl) | (apply ol_gval; rfl; rfl; rfl; exact qA; apply stp_pur; apply s_move; rfl)); all_goals (first | (apply ol_gskip; rfl; rfl; exact qA; rfl) | (apply ol_gval; rfl; rfl; rfl; exact qA; apply stp_cmp; apply s_lss; rfl; rfl; all_goals (intro hc98; try (exfalso; (first | exact hc98 rfl | omega))))); all_goals (apply ol_val; rfl; apply stp_pur; first | (apply s_pick_t; rfl; exact qA; rfl) | (apply s_pick_f; rfl; exact qA; rfl)); all_goals (apply ol_nil))
                  | (refine cw_region_id 24 ?_; (apply ol_fa; rfl; rfl; exact fd_56_1; exact qZ); (apply ol_ld; rfl; rfl; rfl; (first | exact qP | (apply RdN.own; exact qN; exact hgm))); (apply ol_val; rfl; apply stp_pur; first | (apply s_indexK; rfl; rfl; exact el_31; exact sz_28; (first | rfl | exact (rfl : bof (some wb) ow2 Aw2 = some ⟨wb, ow2, none⟩)); omega) | (apply s_indexO; rfl; rfl; exact el_31; exact sz_28; (first | rfl | exact (rfl : bof (some wb) ow2 Aw2 = some ⟨wb, ow2, none⟩)); omega)); (apply ol_ldN; rfl; rfl; rfl; exact sz_28; (first | exact qQ | (apply RdN.own; exact qN; exact hgm))); (apply ol_val; rfl; apply s_alloc; exact zb_28; exact qN; intro bk18); (apply ol_eff; apply s_storeN; rfl; rfl; exact sz_28; rfl; rfl; exact qN; exact qN); (apply ol_nil))
                  | (refine cw_region_id 25 ?_; (apply ol_fa; rfl; rfl; exact fd_56_1; exact qZ); (apply ol_ld; rfl; rfl; rfl; (first | exact qP | (apply RdN.own; exact qN; exact hgm))); (apply ol_val; rfl; apply stp_pur; apply s_slice; rfl; exact el_31; exact sz_28; exact (show bnd _ _ _ 1 from Exists.intro _ rfl); rfl; rfl; (intro h; first | rfl | cases h); exact qO; exact qO; exact qO); (apply ol_fa; rfl; rfl; exact fd_56_1; exact qZ); (apply ol_eff; apply s_store1; rfl; rfl; exact sz_31; rfl; exact qN; exact qT); (apply ol_nil))
                  | (apply cw_cond_true; rfl; exact qA)
                  | (apply cw_cond_false; rfl; exact qA)
                  | apply cw_skip
                  | apply cw_ret
                  | apply cw_block
                  | apply cw_exit
                rw [e1, e3, Nat.add_sub_cancel]
                repeat' first
                  | apply cw_seq
                  | (refine cw_region_id 26 ?_; (apply ol_ldN; rfl; rfl; rfl; exact sz_28; exact qQ); (apply ol_val; rfl; apply s_callM (xs := [⟨some bk12, [.slice (some ⟨rb2, 0, none⟩) bs2.length cb2, .slice (bof (some wb) o' Aw2) xs.length (cw2 - 1)], 56⟩, ⟨some rb2, flat LS.enc bs2 ++ spb2, 25⟩, ⟨some wb, fr' ++ (flat LM.enc xs ++ sp'), 28⟩]); rfl; exact gf_31; (focus ((repeat (first | exact Pk.nil | (apply Pk.cons; (repeat (first | exact Spl.here | apply Spl.there))))); done)); (intro w' M2 hw' hrd; exact kdl w' hw'.le _ rfl hrd.ok (fun x hx b hb => View.none_of hrd.le (hrd.sep x hx b hb)) hrd.nd); (intro v F111 ys M111 h hl111 hL111 hF111; obtain ⟨rfl, hP⟩ := h; obtain ⟨rb3, cb3, spb3, rw3, ow3, Aw3, cw3, fr3, spw3, bs3, ms3, rfl, g2, g3, g4, g5, g6, g7⟩ := hP M111 hl111 hL111)); (apply ol_val; rfl; apply stp_pur; first | (apply s_not_t; rfl; exact qA) | (apply s_not_f; rfl; exact qA) | (apply s_not; rfl)); (apply ol_nil))
                  | (refine cw_region_id 23 ?_; (apply ol_mv; rfl; rfl); (apply ol_val; rfl; apply stp_pur; apply s_add64; rfl; rfl; omega); (apply ol_as; rfl; rfl); (apply ol_nil))
                  | (apply cw_cond_true; rfl; exact qA)
                  | (apply cw_cond_false; rfl; exact qA)
                  | apply cw_skip
                  | apply cw_ret
                  | apply cw_block
                  | apply cw_exit
                exact ⟨(k + 1, dlvY ⟨yb, xs.map LM.val⟩ (LM.val ⟨mf, mt, mk, mn, ⟨mb, ba, bb, bo, bc⟩⟩), ⟨rb3, cb3, spb3, rw3, ow3, Aw3, cw3, fr3, spw3, bs3, ms3, M111⟩), ⟨by (repeat (first | exact trivial | refine And.intro rfl ?_)), View.le.refl _, by exact qK, ⟨⟨hd.inv, hJd, by dsimp only; omega⟩, ⟨g2, g3, g4, g5, g6, g7, hN.trans hl111⟩⟩, by dsimp only; omega⟩⟩
          · obtain rfl : r = 4 := by omega
            have hph := hph (by decide)
            have hsum := hI.sum0
            have hbd := sumR_b (f := amE (okT o (1 + m) l other) (trT o l other)) (b := 11258999068426240)
            have hab := amE_bound hI
            repeat' first
              | apply cw_seq
              | (refine cw_region_id 14 ?_; (apply ol_val; rfl; apply stp_cmp; apply s_lss; rfl; rfl; all_goals (intro hc81; try (exfalso; (first | exact hc81 rfl | omega)))); all_goals (apply ol_nil))
              | (refine cw_region_id 29 ?_; (apply ol_as; rfl; rfl); (apply ol_nil))
              | (refine cw_region_id 30 ?_; (apply ol_fa; rfl; rfl; exact fd_56_0; exact qZ); (apply ol_ld; rfl; rfl; rfl; exact qP); (apply ol_val; rfl; apply stp_pur; apply s_len; rfl; exact el_54); (apply ol_mv; rfl; rfl); (apply ol_nil))
              | (apply cw_cond_true; rfl; exact qA)
              | (apply cw_cond_false; rfl; exact qA)
              | apply cw_skip
              | apply cw_ret
              | apply cw_block
              | apply cw_exit
            refine cw_loopK (σ := Nat) [15, 115, 116] (by (repeat (first | exact Keep.nil | (apply Keep.cons; rfl)))) (fun i => [(19, .int .i64 (sumR (amE (okT o (1 + m) l other) (trT o l other)) i)), (117, .int .i64 i)]) (fun _ => N) (fun _ => [⟨some bk12, [.slice (some ⟨rb, 0, none⟩) bs.length cb, .slice (bof rw_ ow Aw) ms.length cw], 56⟩, ⟨some rb, flat LS.enc bs ++ spb, 25⟩, ⟨rw_, fr ++ (flat LM.enc ms ++ spw), 28⟩]) (fun i => i ≤ 1 + m) (fun i => 1 + m - i) 0 (by (repeat (first | exact trivial | refine And.intro rfl ?_))) (View.le.refl _) (by exact qK) (Nat.zero_le _) ?_
            intro i hi
            by_cases hin : i < 1 + m
            · have hb1 := hbd i (fun j hj => hab j (by omega))
              have hb2 := hab i hin
              obtain ⟨f1, f2, f3⟩ := hI.fin_dc hT hph hin
              have hib : i < bs.length := by omega
              have hv := map_bank h2 hib
              have hsi := h3 bs[i] (List.getElem_mem hib)
              have hg := getN_flat LS.enc_length (sp := spb) hib
              have kD := fun (w' : World) (h : View.le N (View.of w')) => decided_spec h hsi
              have kM := fun (w' : World) (h : View.le N (View.of w')) => mine_spec h hsi
              rw [← hv] at f1 f2 f3
              rw [f1, p2] at kD
              rw [f2] at kM
              have f3 : bs[i].ph = 4 ∨ bs[i].ph = 5 := f3
              clear hv f1 f2 hsi
              generalize bs[i] = s at *
              obtain ⟨ro, ph, bk, bn, ⟨tr, ta, tb, to, tc⟩, ⟨vo, va, vb, vo', vc⟩⟩ := s
              unfold LS.enc at hg kD kM
              dsimp only at hg kD kM f3
              have hs1 : sumR (amE (okT o (1 + m) l other) (trT o l other)) (i + 1) = sumR (amE (okT o (1 + m) l other) (trT o l other)) i + amE (okT o (1 + m) l other) (trT o l other) i := rfl
              generalize sumR (amE (okT o (1 + m) l other) (trT o l other)) i = s0 at *
              generalize amE (okT o (1 + m) l other) (trT o l other) i = am at *
              rcases f3 with rfl | rfl
              all_goals
                repeat' first
                  | apply cw_seq
                  | (refine cw_region_id 31 ?_; (apply ol_val; rfl; apply stp_cmp; apply s_lss; rfl; rfl; all_goals (intro hc118; try (exfalso; (first | exact hc118 rfl | omega)))); all_goals (apply ol_nil))
                  | (refine cw_region_id 32 ?_; (apply ol_mv; rfl; rfl); (apply ol_val; rfl; apply stp_pur; first | (apply s_indexK; rfl; rfl; exact el_54; exact sz_25; (first | rfl); omega) | (apply s_indexO; rfl; rfl; exact el_54; exact sz_25; (first | rfl); omega)); (apply ol_ldN; rfl; rfl; rfl; exact sz_25; (first | exact qQ | (apply RdN.own; exact qN; exact hg))); (apply ol_val; rfl; apply s_alloc; exact zb_25; exact qN; intro bk21); (apply ol_as; rfl; rfl); (apply ol_eff; apply s_storeN; rfl; rfl; exact sz_25; rfl; rfl; exact qN; exact qN); (apply ol_nil))
                  | (refine cw_region_id 33 ?_; (apply ol_ldN; rfl; rfl; rfl; exact sz_25; (first | exact qQ | (apply RdN.own; exact qN; exact hg))); (apply ol_val; rfl; apply s_callv; rfl; exact gf_14; (intro w' hw'; exact kD w' hw'.le)); (apply ol_mv; rfl; rfl); (apply ol_ex; rfl; rfl; rfl); (apply ol_ex; rfl; rfl; rfl); (apply ol_as; rfl; rfl); (apply ol_as; rfl; rfl); (apply ol_nil))
                  | (refine cw_region_id 34 ?_; (apply ol_ldN; rfl; rfl; rfl; exact sz_25; (first | exact qQ | (apply RdN.own; exact qN; exact hg))); (apply ol_val; rfl; apply s_callv; rfl; exact gf_15; (intro w' hw'; exact kM w' hw'.le)); (apply ol_mv; rfl; rfl); (apply ol_ex; rfl; rfl; rfl); (apply ol_ex; rfl; rfl; rfl); (apply ol_as; rfl; rfl); (apply ol_as; rfl; rfl); (apply ol_nil))
                  | (refine cw_region_id 35 ?_; (apply ol_mv; rfl; rfl); (apply ol_val; rfl; apply stp_pur; first | (apply s_not_t; rfl; exact qA) | (apply s_not_f; rfl; exact qA) | (apply s_not; rfl)); (apply ol_mv; rfl; rfl); (first | (apply ol_gskip; rfl; rfl; exact qA; rfl) | (apply ol_gval; rfl; rfl; rfl; exact qA; apply stp_pur; apply s_move; rfl)); (first | (apply ol_gskip; rfl; rfl; exact qA; rfl) | (apply ol_gval; rfl; rfl; rfl; exact qA; apply stp_pur; apply s_move; rfl)); (first | (apply ol_gskip; rfl; rfl; exact qA; rfl) | (apply ol_gval; rfl; rfl; rfl; exact qA; apply stp_pur; apply s_neqB; rfl; rfl; exact ub_4)); (apply ol_val; rfl; apply stp_pur; first | (apply s_pick_t; rfl; exact qA; rfl) | (apply s_pick_f; rfl; exact qA; rfl)); (apply ol_mv; rfl; rfl); (first | (apply ol_gskip; rfl; rfl; exact qA; rfl) | (apply ol_gval; rfl; rfl; rfl; exact qA; apply stp_pur; apply s_move; rfl)); (first | (apply ol_gskip; rfl; rfl; exact qA; rfl) | (apply ol_gval; rfl; rfl; rfl; exact qA; apply stp_cmp; apply s_neq; rfl; rfl; all_goals (intro hc141; try (exfalso; (first | exact hc141 rfl | omega))))); all_goals (apply ol_val; rfl; apply stp_pur; first | (apply s_pick_t; rfl; exact qA; rfl) | (apply s_pick_f; rfl; exact qA; rfl)); all_goals (apply ol_mv; rfl; rfl); all_goals (first | (apply ol_gskip; rfl; rfl; exact qA; rfl) | (apply ol_gval; rfl; rfl; rfl; exact qA; apply stp_pur; apply s_move; rfl)); all_goals (first | (apply ol_gskip; rfl; rfl; exact qA; rfl) | (apply ol_gval; rfl; rfl; rfl; exact qA; apply stp_cmp; apply s_eql; rfl; rfl; all_goals (intro hc145; try (exfalso; (first | exact hc145 rfl | omega))))); all_goals (first | (apply ol_gskip; rfl; rfl; exact qA; rfl) | (apply ol_gval; rfl; rfl; rfl; exact qA; apply stp_pur; apply s_move; rfl)); all_goals (first | (apply ol_gskip; rfl; rfl; exact qA; rfl) | (apply ol_gskipu; rfl; rfl; rfl) | (apply ol_gval; rfl; rfl; rfl; exact qA; apply stp_pur; apply s_fieldAddr'; rfl; exact fd_25_1; exact qZ)); all_goals (first | (apply ol_gskip; rfl; rfl; exact qA; rfl) | (apply ol_gskipu; rfl; rfl; rfl) | (apply ol_gval; rfl; rfl; rfl; exact qA; apply stp_pur; apply s_load1; rfl; rfl; (first | exact qP | (apply RdN.own; exact qN; exact hg)))); all_goals (first | (apply ol_gskip; rfl; rfl; exact qA; rfl) | (apply ol_gskipu; rfl; rfl; rfl) | (apply ol_gval; rfl; rfl; rfl; exact qA; apply stp_cmp; apply s_neq; rfl; rfl; all_goals (intro hc149; try (exfalso; (first | exact hc149 rfl | omega))))); all_goals (first | (apply ol_gskip; rfl; rfl; exact qA; rfl) | (apply ol_gval; rfl; rfl; rfl; exact qA; apply stp_pur; first | (apply s_pick_t; rfl; exact qA; rfl) | (apply s_pick_f; rfl; exact qA; rfl))); all_goals (first | (apply ol_gskip; rfl; rfl; exact qA; rfl) | (apply ol_gval; rfl; rfl; rfl; exact qA; apply stp_pur; apply s_move; rfl)); all_goals (first | (apply ol_gskip; rfl; rfl; exact qA; rfl) | (apply ol_gskipu; rfl; rfl; rfl) | (apply ol_gval; rfl; rfl; rfl; exact qA; apply stp_pur; apply s_fieldAddr'; rfl; exact fd_25_1; exact qZ)); all_goals (first | (apply ol_gskip; rfl; rfl; exact qA; rfl) | (apply ol_gskipu; rfl; rfl; rfl) | (apply ol_gval; rfl; rfl; rfl; exact qA; apply stp_pur; apply s_load1; rfl; rfl; (first | exact qP | (apply RdN.own; exact qN; exact hg)))); all_goals (first | (apply ol_gskip; rfl; rfl; exact qA; rfl) | (apply ol_gskipu; rfl; rfl; rfl) | (apply ol_gval; rfl; rfl; rfl; exact qA; apply stp_cmp; apply s_neq; rfl; rfl; all_goals (intro hc154; try (exfalso; (first | exact hc154 rfl | omega))))); all_goals (first | (apply ol_gskip; rfl; rfl; exact qA; rfl) | (apply ol_gval; rfl; rfl; rfl; exact qA; apply stp_pur; first | (apply s_pick_t; rfl; exact qA; rfl) | (apply s_pick_f; rfl; exact qA; rfl))); all_goals (apply ol_val; rfl; apply stp_pur; first | (apply s_pick_t; rfl; exact qA; rfl) | (apply s_pick_f; rfl; exact qA; rfl)); all_goals (apply ol_nil))
                  | (refine cw_region_id 37 ?_; (apply ol_mv; rfl; rfl); (apply ol_mv; rfl; rfl); (apply ol_val; rfl; apply stp_pur; apply s_add64; rfl; rfl; omega); (apply ol_as; rfl; rfl); (apply ol_nil))
                  | (refine cw_region_id 38 ?_; (apply ol_val; rfl; apply stp_pur; apply s_add64; rfl; rfl; omega); (apply ol_mv; rfl; rfl); (apply ol_nil))
                  | (apply cw_cond_true; rfl; exact qA)
                  | (apply cw_cond_false; rfl; exact qA)
                  | apply cw_skip
                  | apply cw_ret
                  | apply cw_block
                  | apply cw_exit
                all_goals
                  refine ⟨i + 1, ⟨?_, View.le.refl _, by exact qK, hin, by omega⟩⟩
                  rw [hs1]
                  (repeat (first | exact trivial | refine And.intro rfl ?_))
            · obtain rfl : i = 1 + m := by omega
              rw [hsum]
              repeat' first
                | apply cw_seq
                | (refine cw_region_id 31 ?_; (apply ol_val; rfl; apply stp_cmp; apply s_lss; rfl; rfl; all_goals (intro hc118; try (exfalso; (first | exact hc118 rfl | omega)))); all_goals (apply ol_nil))
                | (refine cw_region_id 39 ?_; (apply ol_mv; rfl; rfl); (apply ol_val; rfl; apply stp_cmp; apply s_eql; rfl; rfl; all_goals (intro hc162; try (exfalso; (first | exact hc162 rfl | omega)))); all_goals (apply ol_as; rfl; rfl); all_goals (apply ol_nil))
                | (apply cw_cond_true; rfl; exact qA)
                | (apply cw_cond_false; rfl; exact qA)
                | apply cw_skip
                | apply cw_ret
                | apply cw_block
                | apply cw_exit
              all_goals (refine ends [] (RVal.tmp rfl RVal.nil) Pick.nil ?_; rfl)
end Go.Proofs.Ytagmoecojmlogaa
namespace Go.Proofs.Ytagmoecojmlogaa
set_option maxRecDepth 20000
set_option linter.unusedSimpArgs false
set_option linter.unusedVariables false
open Go Go.Fw Go.ChangeShapes Go.WideShapes Go.ChangeAt Go.RowKit
set_option maxRecDepth 100000 in
theorem ends_lifted (os : Os) (started : os.Started) (H : Type) (enc : TypeId × Value → H) :
    ReturnsInHanded {} Try.checked os 7 .any (Rows.settleEndsSpec.pre6 enc Try.prog Try.f7 Rows.settleEndsRow.domain false) (Rows.settleEndsSpec.post enc Try.prog Try.f7 false true false false) := by
  refine returnsInHanded_of_change_sized (C := Try.checked) Try.own started (by kernel_rfl) Try.func7
    (ChangeSpec.witness6 (enc := enc) (C := Try.checked) false ⟨#[], #[.int .u8 0, .slice none 0 0, .slice none 0 0, .int .u8 0, .slice none 0 0], []⟩ 8 (by kernel_rfl) (by kernel_rfl) (by kernel_rfl) (by kernel_rfl)) ?_
  intro W base args ds gs before hval0 hW _ hz _
  have hval : ∀ (j : Nat) t v, Try.f7.params[j]? = some t → args[j]? = some v → Value.okWide Try.prog W .any base t v := hval0
  refine law_contract (tb := 4) Try.laidOut (by kernel_rfl) (by kernel_rfl) rfl rfl (by kernel_rfl) ?_ W args ds gs before hW ?_
  · intro ds h
    match ds, h with
    | [d0, d1, d2, d3, d4], _ => exact ⟨rfl, rfl, rfl⟩
  · intro p hA0
    have hA : DataW.TrodAll enc Try.prog W 0 (fun _ => true) true Try.f7.params.toList args.toList ds p := hA0
    rw [Try.params7] at hA hval
    obtain ⟨v0, v1, v2, v3, v4, d0, d1, d2, d3, d4, p0, p1, p2, p3, p4, rfl, rfl, rfl, h0, h1, h2, h3, h4⟩ := trodAll_five hA
    obtain ⟨x0, rfl, rfl, rfl, q0⟩ := open_int und_5 (hval 0 5 v0 rfl rfl) h0
    obtain ⟨a1, l1, b1, o1, c1, rfl, s1⟩ := open_transfers (hval 1 22 v1 rfl rfl) h1
    obtain ⟨a2, l2, b2, o2, c2, rfl, s2⟩ := open_transfers (hval 2 22 v2 rfl rfl) h2
    obtain ⟨x3, rfl, rfl, rfl, q3⟩ := open_int und_5 (hval 3 5 v3 rfl rfl) h3
    obtain ⟨a4, l4, b4, o4, c4, rfl, s4, y4⟩ := open_events (hval 4 52 v4 rfl rfl) h4
    exact law_ends (View.of W) W (View.le.refl _) (wf_u8 q0) (wf_u8 q3) s1 s2 s4 y4
theorem ends_holds : Rows.SettleEndsSaid :=
  OpenClaim.holds_of_wide 7 Try.f7 rfl rfl rfl rfl rfl rfl rfl ⟨rfl, rfl, rfl, rfl, rfl⟩ rfl rfl rfl rfl rfl (by kernel_rfl) Try.func7 (by kernel_rfl)
    (of_decide_eq_true (by kernel_rfl)) (by unfold Func.isWrapper; rw [if_neg (of_decide_eq_false (by kernel_rfl))]; exact ⟨rfl, rfl⟩)
    (fun os started H enc _ => ends_lifted os started H enc)
end Go.Proofs.Ytagmoecojmlogaa
