/-
  The law JournalTorn.
-/
import Derived.Test.YtelidojkpbaofaaDoorJ17
namespace Go.Proofs.YtelidojkpbaofaaDoor
set_option maxRecDepth 20000
set_option linter.unusedSimpArgs false
set_option linter.unusedVariables false
open Go Go.Fw
theorem bits_xor_u8 (a b : Int) : 0 ≤ Go.bits .xor .u8 a b ∧ Go.bits .xor .u8 a b ≤ 255 := by
  have e : Go.bits .xor .u8 a b = IntKind.u8.wrap (((BitVec.ofInt 8 a ^^^ BitVec.ofInt 8 b) : BitVec 8).toNat : Int) := rfl
  rw [e, wrapU8]
  omega
theorem isB.set {p : List Int} (h : isB p) (i : Nat) {z : Int} (hz : 0 ≤ z ∧ z ≤ 255) : isB (p.set i z) := .of fun x hx => by
  rcases List.mem_or_eq_of_mem_set hx with h1 | rfl
  · exact h.mem x h1
  · exact hz
theorem framesB_split (L : List (List Int)) (i : Nat) (h : i < L.length) : framesB L = framesB (L.take i) ++ (frB L[i] ++ framesB (L.drop (i + 1))) := by
  have h1 : L = L.take i ++ L.drop i := (List.take_append_drop i L).symm
  have h2 : L.drop i = L[i] :: L.drop (i + 1) := List.drop_eq_getElem_cons h
  have h3 : L = L.take i ++ (L[i] :: L.drop (i + 1)) := by rw [← h2]; exact h1
  have h4 := congrArg framesB h3
  rw [framesB_append, framesB_cons] at h4
  exact h4
theorem set_append_ge {p q : List Int} {k : Nat} {z : Int} (h : p.length ≤ k) : (p ++ q).set k z = p ++ q.set (k - p.length) z := by
  rw [List.set_append, if_neg (by omega)]
/-- Of frames that are cut, and of frames of which one byte is changed, the whole ones ahead are read. -/
theorem read_cut {L : List (List Int)} (hL : ∀ b ∈ L, b.length ≤ 16384) {i q : Nat} (h : i < L.length) (h1 : (framesB (L.take i)).length ≤ q) (h2 : q < (framesB (L.take i)).length + (36 + L[i].length)) :
    readL ((framesB L).take q) = L.take i ∧ ∀ z, ∃ Q, readL ((framesB L).set q z) = L.take i ++ Q := by
  have hb : ∀ b ∈ L.take i, b.length ≤ 16384 := fun b hb => hL b (List.mem_of_mem_take hb)
  rw [framesB_split L i h]
  constructor
  · rw [List.take_append, List.take_of_length_le h1, read_frames hb, List.take_append_of_le_length (by rw [frB_length]; omega), read_torn (hL _ (List.getElem_mem _)) (by omega), List.append_nil]
  · intro z
    rw [set_append_ge h1]
    exact ⟨_, read_frames hb _⟩
theorem torn_plan {R : List (Sl Int)} (hs : shortP R) (hb : ∀ x ∈ R, isB x.xs) : ∃ (T : List Int) (G : Nat → Nat), T.length ≤ 10080 ∧ isB T ∧ (R.length ≠ 0 → 36 ≤ T.length) ∧ G 0 = 0 ∧ G R.length = T.length ∧ (∀ i, G i ≤ 10080) ∧ (∀ i (h : i < R.length), G (i + 1) = G i + (36 + R[i].xs.length)) ∧
    rewS ⟨[], 0, -1⟩ (R.map Sl.xs) = (⟨T, T.length, -1⟩, 0) ∧
    ∀ i q, i < R.length → G i ≤ q → q < G (i + 1) → readJ ⟨T.take q, q, -1⟩ = (R.map Sl.xs).take i ∧ ∀ z, ∃ Q, readJ ⟨T.set q z, 0, -1⟩ = (R.map Sl.xs).take i ++ Q := by
  have hall : (R.map Sl.xs).take R.length = R.map Sl.xs := List.take_of_length_le (by rw [List.length_map]; exact Nat.le_refl _)
  have hstep : ∀ i (h : i < R.length), (framesB ((R.map Sl.xs).take (i + 1))).length = (framesB ((R.map Sl.xs).take i)).length + (36 + R[i].xs.length) := fun i h => by
    rw [take_map_succ h, framesB_snoc, List.length_append, frB_length]
  have hT := framesB_take hs R.length
  rw [hall] at hT
  refine ⟨framesB (R.map Sl.xs), fun k => (framesB ((R.map Sl.xs).take k)).length, hT, isB_framesB fun b h => ?_, fun h0 => ?_, by dsimp only; rw [List.take_zero, framesB_nil]; rfl, by dsimp only; rw [hall], framesB_take hs, hstep, rew_m1 (valid_m1 (du := 0) (Nat.zero_le _) (Nat.zero_le _)), fun i q hi h1 h2 => ?_⟩
  · obtain ⟨x, hx, rfl⟩ := List.mem_map.1 h
    exact hb x hx
  · have h1 := hstep (R.length - 1) (by omega)
    rw [show R.length - 1 + 1 = R.length by omega, hall] at h1
    omega
  · dsimp only at h1 h2
    rw [hstep i hi] at h2
    have hL : ∀ b ∈ R.map Sl.xs, b.length ≤ 16384 := fun b hb => by
      obtain ⟨x, hx, rfl⟩ := List.mem_map.1 hb
      have := hs.2 x hx
      omega
    have hmi := framesB_take hs (i + 1)
    rw [hstep i hi] at hmi
    obtain ⟨c1, c2⟩ := read_cut hL (i := i) (q := q) (by rw [List.length_map]; exact hi) h1 (by rw [List.getElem_map]; exact h2)
    have hqT : q ≤ (framesB (R.map Sl.xs)).length := by
      rw [framesB_split (R.map Sl.xs) i (by rw [List.length_map]; exact hi), List.length_append, List.length_append, frB_length, List.getElem_map]
      omega
    constructor
    · unfold readJ
      rw [if_pos (valid_m1 (by rw [List.length_take]; omega) (by rw [List.length_take]; omega))]
      exact c1
    · intro z
      unfold readJ
      have hv : validJ ⟨(framesB (R.map Sl.xs)).set q z, 0, -1⟩ := valid_m1 (du := 0) (by rw [List.length_set]; exact hT) (Nat.zero_le _)
      rw [if_pos hv]
      exact c2 z
end Go.Proofs.YtelidojkpbaofaaDoor
namespace Go.Proofs.YtelidojkpbaofaaDoor
set_option maxRecDepth 20000
set_option linter.unusedSimpArgs false
set_option linter.unusedVariables false
open Go Go.Fw
attribute [local irreducible] CW OL OD FX Stp FnC FnV Ret sha strOf be8 be4 frB num4 appJ syncJ crashJ readJ framesB wrN wrA rewS
set_option maxHeartbeats 1600000
theorem law_torn {M : View} {w : World} (hM : View.le M (View.of w)) (hL : Laid M) {m cl : Nat} {A : Option Addr} {b o : Nat} {R : List (Sl Int)} {x1 x2 : Int} (hm : R.length = m) (hmc : m ≤ cl) (sR : SlA M Sl.enc 1 A R b o) (hR : RowsIn M R) (hx1 : 0 ≤ x1 ∧ x1 ≤ 65535) (hx2 : 0 ≤ x2 ∧ x2 ≤ 255) :
    FnC Tryd.prog 8 [.slice A m cl, .int .u16 x1, .int .u8 x2] w (fun v _ => v = .bool true) := by
  refine enterF (M := M) Tryd.func8 rfl rfl rfl rfl hM ?_
  by_cases hs : shortP R
  · have ks := fun (w' : World) (hw' : View.le M (View.of w')) => short_yes (c := cl) hw' hm sR hs
    by_cases hm0 : m = 0
    ·
      repeat' first
        | apply cw_seq
        | (refine cw_region_id 0 ?_; (apply ol_as; exact rfl; exact rfl); (apply ol_nil))
        | (refine cw_region_id 1 ?_; (apply ol_val; exact rfl; apply s_callv; exact rfl; exact gf_10; (intro w' hw'; exact awake_spec hw'.le hL)); (apply ol_val; exact rfl; apply stp_pur; first | (apply s_not_t; exact rfl; (first | exact rfl | assumption)) | (apply s_not_f; exact rfl; (first | exact rfl | assumption)) | (apply s_not; exact rfl)); (apply ol_nil))
        | (refine cw_region_id 3 ?_; (apply ol_mv; exact rfl; exact rfl); (apply ol_val; exact rfl; apply s_callv; exact rfl; exact gf_26; (intro w' hw'; exact ks w' hw'.le)); (apply ol_val; exact rfl; apply stp_pur; first | (apply s_not_t; exact rfl; (first | exact rfl | assumption)) | (apply s_not_f; exact rfl; (first | exact rfl | assumption)) | (apply s_not; exact rfl)); (apply ol_mv; exact rfl; exact rfl); (first | (apply ol_gskip; exact rfl; exact rfl; (first | exact rfl | assumption); exact rfl) | (apply ol_gval; exact rfl; exact rfl; exact rfl; (first | exact rfl | assumption); apply stp_pur; apply s_move; exact rfl)); (first | (apply ol_gskip; exact rfl; exact rfl; (first | exact rfl | assumption); exact rfl) | (apply ol_gval; exact rfl; exact rfl; exact rfl; (first | exact rfl | assumption); apply stp_pur; apply s_len; exact rfl; exact el_36)); (first | (apply ol_gskip; exact rfl; exact rfl; (first | exact rfl | assumption); exact rfl) | (apply ol_gval; exact rfl; exact rfl; exact rfl; (first | exact rfl | assumption); apply stp_cmp; apply s_eql; exact rfl; exact rfl; all_goals (intro hc25; try (exfalso; (first | exact hc25 rfl | omega))))); all_goals (apply ol_val; exact rfl; apply stp_pur; first | (apply s_pick_t; exact rfl; (first | exact rfl | assumption); exact rfl) | (apply s_pick_f; exact rfl; (first | exact rfl | assumption); exact rfl)); all_goals (apply ol_nil))
        | (refine cw_region_id 4 ?_; (apply ol_as; exact rfl; exact rfl); (apply ol_nil))
        | (apply cw_cond_true; exact rfl; (first | exact rfl | assumption))
        | (apply cw_cond_false; exact rfl; (first | exact rfl | assumption))
        | apply cw_skip
        | apply cw_ret
        | apply cw_block
        | apply cw_exit
      refine ends [] (RVal.tmp rfl RVal.nil) Pick.nil ?_
      rfl
    have kn := fun (w' : World) => jnew_spec w' (-1)
    rw [newm1] at kn
    obtain ⟨T, G, hTl, hTb, hT36, hG0, hGm, hGl, hGs, hrew, hcut⟩ := torn_plan hs (fun x hx => (hR x hx).2)
    have hs' := hs
    unfold shortP at hs'
    rw [hm] at hGm hT36
    replace hT36 := hT36 hm0
    have kw : ∀ (w' : World) (hw' : View.le M (View.of w')), FnC Tryd.prog 27 [.agg [.slice none 0 0, .int .i64 0, .int .i64 (-1)].toArray, .slice A m cl] w' (JRE (⟨T, T.length, -1⟩, 0)) := fun w' hw' => by
      have := jrew_spec (j := ⟨[], 0, -1⟩) (c := 0) (cl := cl) hw' hL rfl (SlA.zilch (a := none)) hm sR hR hs
      rwa [hrew] at this
    unfold JRE JR at kw
    dsimp only at kw
    have ksm : ∀ (w' : World) (N1 F1 : View) (hw' : View.le M (View.of w')) (hN : View.le N1 (View.of w')) (hF : View.le F1 N1) {R1 : List (Sl Int)} {r1 : Option Nat} {c1 : Nat} {s1 : List Value} (k : Nat), k ≤ m → R1.map Sl.xs = (R.map Sl.xs).take k → OB.ok ⟨r1, flat Sl.enc R1 ++ s1, 22⟩ w' → SO r1 R1.length c1 (flat Sl.enc R1) s1 1 → (∀ x ∈ R1, x.xs.length ≤ x.c ∧ ∀ M', View.le F1 M' → SlA M' (eK .u8) 1 x.a x.xs x.b x.o) →
        FnC Tryd.prog 19 [.slice (base r1 none) R1.length c1, .slice (slicedA A 0 cl 1) (k - 0) (cl - 0)] w' (fun v _ => v = .bool true) := fun w' N1 F1 hw' hN hF R1 r1 c1 s1 k hk he o1 so1 x1 => by
      have sS := SlA.sub sR (l := 0) (h := k) (m := cl) (Nat.zero_le _) (by omega) (by omega)
      rw [List.drop_zero] at sS
      exact same_read hw' hN hF (by rw [List.length_take]; omega) rfl (by omega) (by rw [he, List.map_take]) o1 so1 x1 (fun x hx => by have := hs'.2 x (List.mem_of_mem_take hx); omega) (sS.mono hw') (fun x hx => (hR x (List.mem_of_mem_take hx)).1)
    have ksp : ∀ (w' : World) (N1 F1 : View) (hw' : View.le M (View.of w')) (hN : View.le N1 (View.of w')) (hF : View.le F1 N1) {R1 : List (Sl Int)} {r1 : Option Nat} {c1 : Nat} {s1 : List Value} (k : Nat) (Q : List (List Int)), k ≤ m → R1.map Sl.xs = (R.map Sl.xs).take k ++ Q → OB.ok ⟨r1, flat Sl.enc R1 ++ s1, 22⟩ w' → SO r1 R1.length c1 (flat Sl.enc R1) s1 1 → (∀ x ∈ R1, x.xs.length ≤ x.c ∧ ∀ M', View.le F1 M' → SlA M' (eK .u8) 1 x.a x.xs x.b x.o) →
        FnC Tryd.prog 19 [.slice (slicedA (base r1 none) 0 c1 1) (k - 0) (c1 - 0), .slice (slicedA A 0 cl 1) (k - 0) (cl - 0)] w' (fun v _ => v = .bool true) := fun w' N1 F1 hw' hN hF R1 r1 c1 s1 k Q hk he o1 so1 x1 => by
      have sS := SlA.sub sR (l := 0) (h := k) (m := cl) (Nat.zero_le _) (by omega) (by omega)
      rw [List.drop_zero] at sS
      have hkl : k ≤ R1.length := by
        have := congrArg List.length he
        rw [List.length_map, List.length_append, List.length_take, List.length_map] at this
        omega
      have sO := SlA.sub (SlA.own (A := none) (sz := 1) (fun s : Sl Int => s.enc_length) o1 (fun h => so1.emp h)) (l := 0) (h := k) (m := c1) (Nat.zero_le _) hkl (by have := so1.hle; omega)
      rw [List.drop_zero] at sO
      have he2 : (R1.take k).map Sl.xs = (R.take k).map Sl.xs := by
        rw [List.map_take, he, List.map_take, List.take_left' (by rw [List.length_take, List.length_map]; omega)]
      refine sameL_spec (View.le.refl _) (by rw [List.length_take]; omega) (by rw [List.length_take]; omega) (by omega) he2 sO (sS.mono hw') (fun x hx => ⟨?_, (x1 x (List.mem_of_mem_take hx)).2 _ (View.le.trans hF hN)⟩) (fun x hx => ((hR x (List.mem_of_mem_take hx)).1).mono hw')
      have : x.xs ∈ (R.take k).map Sl.xs := by rw [← he2]; exact List.mem_map.2 ⟨x, hx, rfl⟩
      obtain ⟨y, hy, e⟩ := List.mem_map.1 this
      have := hs'.2 y (List.mem_of_mem_take hy)
      rw [← e]
      omega
    have krd : ∀ (w' : World) (hw' : View.le M (View.of w')) (P : List Int) (n : Nat) (du : Int) (L : List (List Int)), P.length = n → isB P → readJ ⟨P, du, -1⟩ = L → ∀ {r : Option Nat} {A' : Option Addr} {c' : Nat} {s' : List Value}, OB.ok ⟨r, flat (eK .u8) P ++ s', 5⟩ w' → (r = none → P = []) → n ≤ c' → FnV Tryd.prog 20 [.agg [.slice (base r A') n c', .int .i64 du, .int .i64 (-1)].toArray] w' (RowsR L) := fun w' hw' P n du L hn hb he r A' c' s' ho hr hc => by
      have := jread_own (P := P) (du := du) (af := -1) (A := A') hw' hL hn hc hb ho hr
      rwa [he] at this
    have kcl : ∀ (w' : World) {rj : Option Nat} {Aj : Option Addr} {cj : Nat} {sj : List Value} (q : Nat), q ≤ T.length → T.length ≤ cj → OB.ok ⟨rj, flat (eK .u8) T ++ sj, 5⟩ w' → (rj = none → T = []) → FnC Tryd.prog 30 [.slice (slicedA (base rj Aj) 0 cj 1) (q - 0) (cj - 0)] w' (RowRes (eK .u8) 1 5 (T.take q)) := fun w' rj Aj cj sj q hq hc ho hr => by
      have sO := SlA.sub (SlA.ownK (A := Aj) ho hr) (l := 0) (h := q) (m := cj) (Nat.zero_le _) hq (by omega)
      rw [List.drop_zero] at sO
      have hl : (T.take q).length = q := by rw [List.length_take]; omega
      exact cloneS_spec (View.le.refl _) (by omega) sO (by omega)
    have kca : ∀ (w' : World) {rj : Option Nat} {Aj : Option Addr} {cj : Nat} {sj : List Value}, OB.ok ⟨rj, flat (eK .u8) T ++ sj, 5⟩ w' → (rj = none → T = []) → FnC Tryd.prog 30 [.slice (base rj Aj) T.length cj] w' (RowRes (eK .u8) 1 5 T) := fun w' rj Aj cj sj ho hr =>
      cloneS_spec (View.le.refl _) rfl (SlA.ownK (A := Aj) ho hr) (by omega)
    unfold RowRes at kcl kca
    generalize hLe : R.map Sl.xs = L at *
    clear hs hrew
    obtain ⟨u, rfl⟩ := Int.eq_ofNat_of_zero_le hx1.1
    repeat' first
      | apply cw_seq
      | (refine cw_region_id 0 ?_; (apply ol_as; exact rfl; exact rfl); (apply ol_nil))
      | (refine cw_region_id 1 ?_; (apply ol_val; exact rfl; apply s_callv; exact rfl; exact gf_10; (intro w' hw'; exact awake_spec hw'.le hL)); (apply ol_val; exact rfl; apply stp_pur; first | (apply s_not_t; exact rfl; (first | exact rfl | assumption)) | (apply s_not_f; exact rfl; (first | exact rfl | assumption)) | (apply s_not; exact rfl)); (apply ol_nil))
      | (refine cw_region_id 3 ?_; (apply ol_mv; exact rfl; exact rfl); (apply ol_val; exact rfl; apply s_callv; exact rfl; exact gf_26; (intro w' hw'; exact ks w' hw'.le)); (apply ol_val; exact rfl; apply stp_pur; first | (apply s_not_t; exact rfl; (first | exact rfl | assumption)) | (apply s_not_f; exact rfl; (first | exact rfl | assumption)) | (apply s_not; exact rfl)); (apply ol_mv; exact rfl; exact rfl); (first | (apply ol_gskip; exact rfl; exact rfl; (first | exact rfl | assumption); exact rfl) | (apply ol_gval; exact rfl; exact rfl; exact rfl; (first | exact rfl | assumption); apply stp_pur; apply s_move; exact rfl)); (first | (apply ol_gskip; exact rfl; exact rfl; (first | exact rfl | assumption); exact rfl) | (apply ol_gval; exact rfl; exact rfl; exact rfl; (first | exact rfl | assumption); apply stp_pur; apply s_len; exact rfl; exact el_36)); (first | (apply ol_gskip; exact rfl; exact rfl; (first | exact rfl | assumption); exact rfl) | (apply ol_gval; exact rfl; exact rfl; exact rfl; (first | exact rfl | assumption); apply stp_cmp; apply s_eql; exact rfl; exact rfl; all_goals (intro hc25; try (exfalso; (first | exact hc25 rfl | omega))))); all_goals (apply ol_val; exact rfl; apply stp_pur; first | (apply s_pick_t; exact rfl; (first | exact rfl | assumption); exact rfl) | (apply s_pick_f; exact rfl; (first | exact rfl | assumption); exact rfl)); all_goals (apply ol_nil))
      | (refine cw_region_id 5 ?_; (apply ol_val; exact rfl; apply s_callv; exact rfl; exact gf_17; (intro w' hw'; exact kn w')); (apply ol_mv; exact rfl; exact rfl); (apply ol_val; exact rfl; apply s_call; exact rfl; exact gf_27; (intro w' hw'; exact kw w' hw'.le); ((intro v new h; obtain ⟨u, rfl, rj, Aj, cj, sj, rfl, rfl, hrj, hcj⟩ := h))); (apply ol_mv; exact rfl; exact rfl); (apply ol_ex; exact rfl; exact rfl; exact rfl); (apply ol_ex; exact rfl; exact rfl; exact rfl); (apply ol_val; exact rfl; apply s_alloc; exact zb_24; (focus ((repeat constructor); done)); intro bk7); (apply ol_eff; apply s_storeN; exact rfl; exact rfl; exact sz_24; exact rfl; exact rfl; (focus ((repeat constructor); done)); (focus ((repeat constructor); done))); (apply ol_as; exact rfl; exact rfl); (apply ol_nil))
      | (refine cw_region_id 6 ?_; (apply ol_mv; exact rfl; exact rfl); (apply ol_val; exact rfl; apply stp_cmp; apply s_neq; exact rfl; exact rfl; all_goals (intro hc34; try (exfalso; (first | exact hc34 rfl | omega)))); all_goals (apply ol_mv; exact rfl; exact rfl); all_goals (first | (apply ol_gskip; exact rfl; exact rfl; (first | exact rfl | assumption); exact rfl) | (apply ol_gval; exact rfl; exact rfl; exact rfl; (first | exact rfl | assumption); apply stp_pur; apply s_fieldAddr'; exact rfl; exact fd_24_0; (first | exact Nat.zero_add _ | exact Nat.add_zero _ | exact rfl))); all_goals (first | (apply ol_gskip; exact rfl; exact rfl; (first | exact rfl | assumption); exact rfl) | (apply ol_gval; exact rfl; exact rfl; exact rfl; (first | exact rfl | assumption); apply stp_pur; apply s_load1; exact rfl; exact rfl; (apply RdN.own; (focus ((repeat constructor); done)); exact GetN.cons rfl GetN.nil))); all_goals (first | (apply ol_gskip; exact rfl; exact rfl; (first | exact rfl | assumption); exact rfl) | (apply ol_gval; exact rfl; exact rfl; exact rfl; (first | exact rfl | assumption); apply stp_pur; apply s_len; exact rfl; exact el_22)); all_goals (first | (apply ol_gskip; exact rfl; exact rfl; (first | exact rfl | assumption); exact rfl) | (apply ol_gval; exact rfl; exact rfl; exact rfl; (first | exact rfl | assumption); apply stp_cmp; apply s_eql; exact rfl; exact rfl; all_goals (intro hc39; try (exfalso; (first | exact hc39 rfl | omega))))); all_goals (apply ol_val; exact rfl; apply stp_pur; first | (apply s_pick_t; exact rfl; (first | exact rfl | assumption); exact rfl) | (apply s_pick_f; exact rfl; (first | exact rfl | assumption); exact rfl)); all_goals (apply ol_nil))
      | (refine cw_region_id 8 ?_; (apply ol_mv; exact rfl; exact rfl); (apply ol_val; exact rfl; apply stp_pur; first | (apply s_conv; exact rfl; exact rfl; exact ti_3; (focus (apply wrap_i64; omega))) | (apply s_conv; exact rfl; exact rfl; exact ti_3; exact rfl)); (apply ol_fa; exact rfl; exact rfl; exact fd_24_0; (first | exact Nat.zero_add _ | exact Nat.add_zero _ | exact rfl)); (apply ol_ld; exact rfl; exact rfl; exact rfl; (apply RdN.own; (focus ((repeat constructor); done)); exact GetN.cons rfl GetN.nil)); (apply ol_val; exact rfl; apply stp_pur; apply s_len; exact rfl; exact el_22); (apply ol_val; exact rfl; apply stp_pur; first | (apply s_rem64; exact rfl; exact rfl; omega) | (apply s_remT; exact rfl; exact rfl; omega)); (apply ol_as; exact rfl; exact rfl); (apply ol_nil))
      | (apply cw_cond_true; exact rfl; (first | exact rfl | assumption))
      | (apply cw_cond_false; exact rfl; (first | exact rfl | assumption))
      | apply cw_skip
      | apply cw_ret
      | apply cw_block
      | apply cw_exit
    obtain ⟨q, hq, hqT⟩ : ∃ q : Nat, (u : Int) % (T.length : Int) = (q : Int) ∧ q < T.length := ⟨u % T.length, by first | rfl | exact (Int.natCast_mod _ _).symm, Nat.mod_lt _ (by omega)⟩
    rw [hq]
    clear hq hx1
    have hG0' : ((G 0 : Nat) : Int) = 0 := by rw [hG0]; rfl
    have hTq : (T.take q).length = q := by rw [List.length_take]; omega
    have hbq : isB (T.take q) := by have := hTb.part 0 q; rwa [List.drop_zero] at this
    have hz2 := bits_xor_u8 (T.getD q 0) x2
    have hTs : (T.set q (Go.bits .xor .u8 (T.getD q 0) x2)).length = T.length := List.length_set
    have hbs : isB (T.set q (Go.bits .xor .u8 (T.getD q 0) x2)) := hTb.set q hz2
    repeat' first
      | apply cw_seq
      | (refine cw_region_id 9 ?_; (apply ol_as; exact rfl; exact rfl); (apply ol_as; exact rfl; exact rfl); (apply ol_nil))
      | (refine cw_region_id 10 ?_; (apply ol_mv; exact rfl; exact rfl); (apply ol_val; exact rfl; apply stp_pur; apply s_len; exact rfl; exact el_36); (apply ol_mv; exact rfl; exact rfl); (apply ol_nil))
      | (apply cw_cond_true; exact rfl; (first | exact rfl | assumption))
      | (apply cw_cond_false; exact rfl; (first | exact rfl | assumption))
      | apply cw_skip
      | apply cw_ret
      | apply cw_block
      | apply cw_exit
    refine cw_loopK (σ := Nat) [0, 2, 7, 9, 47, 48] (by (repeat (first | exact Keep.nil | (apply Keep.cons; exact rfl)))) (fun i => [(10, .int .i64 i), (11, .int .i64 (G i : Nat)), (49, .int .i64 i)]) (fun _ => M) (fun _ => [⟨some bk7, [.slice (base rj Aj) T.length cj, .int .i64 T.length, .int .i64 (-1)], 24⟩, ⟨rj, flat (eK .u8) T ++ sj, 5⟩]) (fun i => i ≤ m ∧ G i ≤ q) (fun i => m - i) 0 (by rw [hG0']; (repeat (first | exact trivial | refine And.intro rfl ?_))) (View.le.refl _) (by (repeat (first | exact Pick.nil | (apply Pick.cons; (focus ((repeat (first | exact Spl.here | apply Spl.there)); done))) | exact Pick.refl))) ⟨Nat.zero_le _, by omega⟩ ?_
    rintro i ⟨hi, hiq⟩
    try dsimp only
    by_cases hi' : i < m
    · have g1 := sR.cells i (by omega)
      have hgs := hGs i (by omega)
      have hgl := hGl i
      have hgl1 := hGl (i + 1)
      have hct := hcut i q (by omega)
      generalize R[i]'(by omega) = X at *
      by_cases hbr : q < G (i + 1)
      · obtain ⟨hc1, hc2⟩ := hct hiq hbr
        obtain ⟨Q, hQ⟩ := hc2 (Go.bits .xor .u8 (T.getD q 0) x2)
        clear hct hcut hc2
        by_cases h0 : x2 = 0
        ·
          repeat' first
            | apply cw_seq
            | (refine cw_region_id 11 ?_; (apply ol_val; exact rfl; apply stp_cmp; apply s_lss; exact rfl; exact rfl; all_goals (intro hc50; try (exfalso; (first | exact hc50 rfl | omega)))); all_goals (apply ol_nil))
            | (refine cw_region_id 12 ?_; (apply ol_val; exact rfl; apply stp_pur; first | (apply s_indexK; exact rfl; exact rfl; exact el_36; exact sz_22; (first | exact rfl | exact sR.at_ (by omega)); omega) | (apply s_indexO; exact rfl; exact rfl; exact el_36; exact sz_22; (first | exact rfl | exact sR.at_ (by omega)); omega)); (apply ol_ld; exact rfl; exact rfl; exact rfl; (first | (apply RdN.own; (focus ((repeat constructor); done)); exact GetN.cons rfl GetN.nil) | (apply RdN.view; exact g1))); (apply ol_as; exact rfl; exact rfl); (apply ol_nil))
            | (refine cw_region_id 13 ?_; (apply ol_mv; exact rfl; exact rfl); (apply ol_mv; exact rfl; exact rfl); (apply ol_val; exact rfl; apply stp_pur; apply s_len; exact rfl; exact el_22); (apply ol_val; exact rfl; apply stp_pur; apply s_add64; exact rfl; exact rfl; omega); (apply ol_val; exact rfl; apply stp_pur; apply s_add64; exact rfl; exact rfl; omega); (apply ol_as; exact rfl; exact rfl); (apply ol_nil))
            | (refine cw_region_id 14 ?_; (apply ol_mv; exact rfl; exact rfl); (apply ol_mv; exact rfl; exact rfl); (apply ol_val; exact rfl; apply stp_cmp; apply s_gtr; exact rfl; exact rfl; all_goals (intro hc60; try (exfalso; (first | exact hc60 rfl | omega)))); all_goals (apply ol_nil))
            | (refine cw_region_id 17 ?_; (apply ol_fa; exact rfl; exact rfl; exact fd_24_0; (first | exact Nat.zero_add _ | exact Nat.add_zero _ | exact rfl)); (apply ol_ld; exact rfl; exact rfl; exact rfl; (first | (apply RdN.own; (focus ((repeat constructor); done)); exact GetN.cons rfl GetN.nil) | (apply RdN.view; exact g1))); (apply ol_mv; exact rfl; exact rfl); (apply ol_val; exact rfl; apply stp_pur; apply s_slice; exact rfl; exact el_22; exact sz_5; exact rfl; exact Exists.intro _ rfl; exact rfl; (intro h; first | exact rfl | cases h); (first | omega | (simp; omega) | (simp; done)); (first | omega | (simp; omega) | (simp; done)); (first | omega | (simp; omega) | (simp; done))); (apply ol_val; exact rfl; apply s_call; exact rfl; exact gf_30; (intro w' hw'; exact kcl w' q (by omega) hcj (hw'.ok_ (by (repeat (first | exact Has.here | apply Has.there)))) hrj); ((intro v new h; obtain ⟨rc, Ac, cc, sc, rfl, rfl, soc⟩ := h; have hrc : rc = none → T.take q = [] := fun h => soc.emp h; rw [hTq] at soc ⊢))); (apply ol_mv; exact rfl; exact rfl); (apply ol_val; exact rfl; apply stp_pur; apply s_buildS; exact rfl; exact fs_24; exact zb_24; (focus ((repeat (first | exact rfl | constructor)); done))); (apply ol_val; exact rfl; apply s_alloc; exact zb_24; (focus ((repeat constructor); done)); intro bk14); (apply ol_eff; apply s_storeN; exact rfl; exact rfl; exact sz_24; exact rfl; exact rfl; (focus ((repeat constructor); done)); (focus ((repeat constructor); done))); (apply ol_nil))
            | (refine cw_draw (id := 18) 7 (.mv 0 (.mv 2 (.mv 3 (.mv 4 (.fx 1 (.fx 5 (.mv 6 (PT.nil)))))))) mixed (by kernel_rfl) ?_; (apply od_mv; exact rfl; exact rfl; apply s_loadN; exact rfl; exact rfl; exact sz_24; (first | (apply RdN.own; (focus ((repeat constructor); done)); (focus ((repeat (first | exact rfl | constructor)); done))) | (apply RdN.view; exact g1))); (apply od_mv; exact rfl; exact rfl; apply s_move; exact rfl); (apply od_mv; exact rfl; exact rfl; apply s_move; exact rfl); (apply od_mv; exact rfl; exact rfl; apply s_slice; exact rfl; exact el_36; exact sz_22; exact rfl; exact Exists.intro _ rfl; exact rfl; (intro h; first | exact rfl | cases h); (first | omega | (simp; omega) | (simp; done)); (first | omega | (simp; omega) | (simp; done)); (first | omega | (simp; omega) | (simp; done))); (apply od_fx; (first | exact Wk.refl _ _ | (focus (apply Wk.mk; (first | exact View.le.refl _ | assumption | exact View.le.trans (by assumption) (by assumption)); (repeat constructor); done))); (apply fx_val; exact rfl; exact rfl; (apply s_callV; exact rfl; exact gf_20; (intro w' hw'; exact krd w' hw'.le (T.take q) q q _ hTq hbq hc1 (hw'.ok_ (by (repeat (first | exact Has.here | apply Has.there)))) hrc soc.hle); (intro v F1 new N1 h hN1 hF1 _; obtain ⟨R1, r1, c1, s1, rfl, rfl, so1, e1, x1⟩ := h)))); all_goals (apply od_fx; (first | exact Wk.refl _ _ | (focus (apply Wk.mk; (first | exact View.le.refl _ | assumption | exact View.le.trans (by assumption) (by assumption)); (repeat constructor); done))); (apply fx_val; exact rfl; exact rfl; apply s_callv; exact rfl; exact gf_19; (intro w' hw'; exact ksm w' N1 F1 (View.le.trans hN1 hw'.le) hw'.le hF1 i (by omega) e1 (hw'.ok_ (by (repeat (first | exact Has.here | apply Has.there)))) so1 x1))); all_goals (apply od_mv; exact rfl; exact rfl; first | (apply s_not_t; exact rfl; (first | exact rfl | assumption)) | (apply s_not_f; exact rfl; (first | exact rfl | assumption)) | (apply s_not; exact rfl)); all_goals (apply od_nil; (first | exact Wk.refl _ _ | (focus (apply Wk.mk; (first | exact View.le.refl _ | assumption | exact View.le.trans (by assumption) (by assumption)); (repeat constructor); done)))); all_goals (apply ol_nil))
            | (refine cw_region_id 20 ?_; (apply ol_mv; exact rfl; exact rfl); (apply ol_val; exact rfl; apply stp_cmp; apply s_eql; exact rfl; exact rfl; all_goals (intro hc79; try (exfalso; (first | exact hc79 rfl | omega)))); all_goals (apply ol_nil))
            | (refine cw_region_id 21 ?_; (apply ol_as; exact rfl; exact rfl); (apply ol_nil))
            | (apply cw_cond_true; exact rfl; (first | exact rfl | assumption))
            | (apply cw_cond_false; exact rfl; (first | exact rfl | assumption))
            | apply cw_skip
            | apply cw_ret
            | apply cw_block
            | apply cw_exit
          all_goals (refine ends [] (RVal.tmp rfl RVal.nil) Pick.nil ?_; rfl)
        ·
          repeat' first
            | apply cw_seq
            | (refine cw_region_id 11 ?_; (apply ol_val; exact rfl; apply stp_cmp; apply s_lss; exact rfl; exact rfl; all_goals (intro hc50; try (exfalso; (first | exact hc50 rfl | omega)))); all_goals (apply ol_nil))
            | (refine cw_region_id 12 ?_; (apply ol_val; exact rfl; apply stp_pur; first | (apply s_indexK; exact rfl; exact rfl; exact el_36; exact sz_22; (first | exact rfl | exact sR.at_ (by omega)); omega) | (apply s_indexO; exact rfl; exact rfl; exact el_36; exact sz_22; (first | exact rfl | exact sR.at_ (by omega)); omega)); (apply ol_ld; exact rfl; exact rfl; exact rfl; (first | (apply RdN.own; (focus ((repeat constructor); done)); exact GetN.cons rfl GetN.nil) | (apply RdN.view; exact g1))); (apply ol_as; exact rfl; exact rfl); (apply ol_nil))
            | (refine cw_region_id 13 ?_; (apply ol_mv; exact rfl; exact rfl); (apply ol_mv; exact rfl; exact rfl); (apply ol_val; exact rfl; apply stp_pur; apply s_len; exact rfl; exact el_22); (apply ol_val; exact rfl; apply stp_pur; apply s_add64; exact rfl; exact rfl; omega); (apply ol_val; exact rfl; apply stp_pur; apply s_add64; exact rfl; exact rfl; omega); (apply ol_as; exact rfl; exact rfl); (apply ol_nil))
            | (refine cw_region_id 14 ?_; (apply ol_mv; exact rfl; exact rfl); (apply ol_mv; exact rfl; exact rfl); (apply ol_val; exact rfl; apply stp_cmp; apply s_gtr; exact rfl; exact rfl; all_goals (intro hc60; try (exfalso; (first | exact hc60 rfl | omega)))); all_goals (apply ol_nil))
            | (refine cw_region_id 17 ?_; (apply ol_fa; exact rfl; exact rfl; exact fd_24_0; (first | exact Nat.zero_add _ | exact Nat.add_zero _ | exact rfl)); (apply ol_ld; exact rfl; exact rfl; exact rfl; (first | (apply RdN.own; (focus ((repeat constructor); done)); exact GetN.cons rfl GetN.nil) | (apply RdN.view; exact g1))); (apply ol_mv; exact rfl; exact rfl); (apply ol_val; exact rfl; apply stp_pur; apply s_slice; exact rfl; exact el_22; exact sz_5; exact rfl; exact Exists.intro _ rfl; exact rfl; (intro h; first | exact rfl | cases h); (first | omega | (simp; omega) | (simp; done)); (first | omega | (simp; omega) | (simp; done)); (first | omega | (simp; omega) | (simp; done))); (apply ol_val; exact rfl; apply s_call; exact rfl; exact gf_30; (intro w' hw'; exact kcl w' q (by omega) hcj (hw'.ok_ (by (repeat (first | exact Has.here | apply Has.there)))) hrj); ((intro v new h; obtain ⟨rc, Ac, cc, sc, rfl, rfl, soc⟩ := h; have hrc : rc = none → T.take q = [] := fun h => soc.emp h; rw [hTq] at soc ⊢))); (apply ol_mv; exact rfl; exact rfl); (apply ol_val; exact rfl; apply stp_pur; apply s_buildS; exact rfl; exact fs_24; exact zb_24; (focus ((repeat (first | exact rfl | constructor)); done))); (apply ol_val; exact rfl; apply s_alloc; exact zb_24; (focus ((repeat constructor); done)); intro bk14); (apply ol_eff; apply s_storeN; exact rfl; exact rfl; exact sz_24; exact rfl; exact rfl; (focus ((repeat constructor); done)); (focus ((repeat constructor); done))); (apply ol_nil))
            | (refine cw_draw (id := 18) 7 (.mv 0 (.mv 2 (.mv 3 (.mv 4 (.fx 1 (.fx 5 (.mv 6 (PT.nil)))))))) mixed (by kernel_rfl) ?_; (apply od_mv; exact rfl; exact rfl; apply s_loadN; exact rfl; exact rfl; exact sz_24; (first | (apply RdN.own; (focus ((repeat constructor); done)); (focus ((repeat (first | exact rfl | constructor)); done))) | (apply RdN.view; exact g1))); (apply od_mv; exact rfl; exact rfl; apply s_move; exact rfl); (apply od_mv; exact rfl; exact rfl; apply s_move; exact rfl); (apply od_mv; exact rfl; exact rfl; apply s_slice; exact rfl; exact el_36; exact sz_22; exact rfl; exact Exists.intro _ rfl; exact rfl; (intro h; first | exact rfl | cases h); (first | omega | (simp; omega) | (simp; done)); (first | omega | (simp; omega) | (simp; done)); (first | omega | (simp; omega) | (simp; done))); (apply od_fx; (first | exact Wk.refl _ _ | (focus (apply Wk.mk; (first | exact View.le.refl _ | assumption | exact View.le.trans (by assumption) (by assumption)); (repeat constructor); done))); (apply fx_val; exact rfl; exact rfl; (apply s_callV; exact rfl; exact gf_20; (intro w' hw'; exact krd w' hw'.le (T.take q) q q _ hTq hbq hc1 (hw'.ok_ (by (repeat (first | exact Has.here | apply Has.there)))) hrc soc.hle); (intro v F1 new N1 h hN1 hF1 _; obtain ⟨R1, r1, c1, s1, rfl, rfl, so1, e1, x1⟩ := h)))); all_goals (apply od_fx; (first | exact Wk.refl _ _ | (focus (apply Wk.mk; (first | exact View.le.refl _ | assumption | exact View.le.trans (by assumption) (by assumption)); (repeat constructor); done))); (apply fx_val; exact rfl; exact rfl; apply s_callv; exact rfl; exact gf_19; (intro w' hw'; exact ksm w' N1 F1 (View.le.trans hN1 hw'.le) hw'.le hF1 i (by omega) e1 (hw'.ok_ (by (repeat (first | exact Has.here | apply Has.there)))) so1 x1))); all_goals (apply od_mv; exact rfl; exact rfl; first | (apply s_not_t; exact rfl; (first | exact rfl | assumption)) | (apply s_not_f; exact rfl; (first | exact rfl | assumption)) | (apply s_not; exact rfl)); all_goals (apply od_nil; (first | exact Wk.refl _ _ | (focus (apply Wk.mk; (first | exact View.le.refl _ | assumption | exact View.le.trans (by assumption) (by assumption)); (repeat constructor); done)))); all_goals (apply ol_nil))
            | (refine cw_region_id 20 ?_; (apply ol_mv; exact rfl; exact rfl); (apply ol_val; exact rfl; apply stp_cmp; apply s_eql; exact rfl; exact rfl; all_goals (intro hc79; try (exfalso; (first | exact hc79 rfl | omega)))); all_goals (apply ol_nil))
            | (apply cw_cond_true; exact rfl; (first | exact rfl | assumption))
            | (apply cw_cond_false; exact rfl; (first | exact rfl | assumption))
            | apply cw_skip
            | apply cw_ret
            | apply cw_block
            | apply cw_exit
          all_goals
            repeat' first
              | apply cw_seq
              | (refine cw_region_id 22 ?_; (apply ol_fa; exact rfl; exact rfl; exact fd_24_0; (first | exact Nat.zero_add _ | exact Nat.add_zero _ | exact rfl)); (apply ol_ld; exact rfl; exact rfl; exact rfl; (first | (apply RdN.own; (focus ((repeat constructor); done)); exact GetN.cons rfl GetN.nil) | (apply RdN.own; (repeat (first | exact Has.here | apply Has.there)); exact getNK (by omega)))); (apply ol_val; exact rfl; apply s_call; exact rfl; exact gf_30; (intro w' hw'; exact kca w' (hw'.ok_ (by (repeat (first | exact Has.here | apply Has.there)))) hrj); ((intro v new h; obtain ⟨rc2, Ac2, cc2, sc2, rfl, rfl, soc2⟩ := h; obtain ⟨rc2, rfl⟩ : ∃ q, rc2 = some q := ⟨_, some_ref soc2 (by omega)⟩))); (apply ol_val; exact rfl; apply stp_pur; apply s_buildS; exact rfl; exact fs_24; exact zb_24; (focus ((repeat (first | exact rfl | constructor)); done))); (apply ol_val; exact rfl; apply s_alloc; exact zb_24; (focus ((repeat constructor); done)); intro bk15); (apply ol_eff; apply s_storeN; exact rfl; exact rfl; exact sz_24; exact rfl; exact rfl; (focus ((repeat constructor); done)); (focus ((repeat constructor); done))); (apply ol_nil))
              | (refine cw_region_id 23 ?_; (apply ol_fa; exact rfl; exact rfl; exact fd_24_0; (first | exact Nat.zero_add _ | exact Nat.add_zero _ | exact rfl)); (apply ol_ld; exact rfl; exact rfl; exact rfl; (first | (apply RdN.own; (focus ((repeat constructor); done)); exact GetN.cons rfl GetN.nil) | (apply RdN.own; (repeat (first | exact Has.here | apply Has.there)); exact getNK (by omega)))); (apply ol_mv; exact rfl; exact rfl); (apply ol_val; exact rfl; apply stp_pur; first | (apply s_indexK; exact rfl; exact rfl; exact el_22; exact sz_5; (first | exact rfl | exact (show base (some rc2) Ac2 = _ from rfl)); omega) | (apply s_indexO; exact rfl; exact rfl; exact el_22; exact sz_5; (first | exact rfl | exact (show base (some rc2) Ac2 = _ from rfl)); omega)); (apply ol_ld; exact rfl; exact rfl; exact rfl; (first | (apply RdN.own; (focus ((repeat constructor); done)); (first | exact GetN.cons rfl GetN.nil | (apply getN_ints_app; (first | omega | (simp; omega) | (simp; done))) | (apply getN_ints; (first | omega | (simp; omega) | (simp; done))))) | (apply RdN.own; (repeat (first | exact Has.here | apply Has.there)); exact getNK (by omega)))); (apply ol_mv; exact rfl; exact rfl); (apply ol_val; exact rfl; apply stp_pur; apply s_xor; exact rfl; exact rfl); (apply ol_val; exact rfl; apply stp_pur; first | (apply s_indexK; exact rfl; exact rfl; exact el_22; exact sz_5; (first | exact rfl | exact (show base (some rc2) Ac2 = _ from rfl)); omega) | (apply s_indexO; exact rfl; exact rfl; exact el_22; exact sz_5; (first | exact rfl | exact (show base (some rc2) Ac2 = _ from rfl)); omega)); (apply ol_eff; apply s_store1; exact rfl; exact rfl; exact sz_5; exact rfl; (focus ((repeat constructor); done)); (first | (focus ((repeat constructor); done)) | (apply setAt_ints_app; (first | omega | (simp; omega) | (simp; done))) | (apply setAt_ints; (first | omega | (simp; omega) | (simp; done))) | (apply setAtK; omega) | (apply SetAt.set; (first | omega | (simp; omega) | (simp; done))))); (apply ol_nil))
              | (refine cw_region_id 24 ?_; (apply ol_ldN; exact rfl; exact rfl; exact rfl; exact sz_24; (first | (apply RdN.own; (focus ((repeat constructor); done)); (focus ((repeat (first | exact rfl | constructor)); done))) | (apply RdN.own; (repeat (first | exact Has.here | apply Has.there)); exact getNK (by omega)))); (apply ol_val; exact rfl; (apply s_callV; exact rfl; exact gf_20; (intro w' hw'; exact krd w' (View.le.trans hN1 hw'.le) (T.set q (Go.bits .xor .u8 (T.getD q 0) x2)) T.length 0 _ hTs hbs hQ (hw'.ok_ (by (repeat (first | exact Has.here | apply Has.there)))) (fun h => by cases h) soc2.hle); (intro v F2 new N2 h hN2 hF2 _; obtain ⟨R2, r2, c2, s2, rfl, rfl, so2, e2, x2⟩ := h; have hl2 : i ≤ R2.length := (by have := congrArg List.length e2; rw [List.length_map, List.length_append, List.length_take, ← hLe, List.length_map] at this; omega); have hc2l : i ≤ c2 := (by have := so2.hle; omega)))); all_goals (apply ol_as; exact rfl; exact rfl); all_goals (apply ol_nil))
              | (refine cw_draw (id := 25) 14 (.mv 0 (.mv 1 (.mv 2 (.mv 3 (.mv 4 (.mv 5 (.mv 6 (.mv 7 (.mv 8 (.mv 9 (.mv 10 (.fx 11 (.mv 12 (.mv 13 (PT.nil))))))))))))))) mixed (by kernel_rfl) ?_; (apply od_mv; exact rfl; exact rfl; apply s_move; exact rfl); (apply od_mv; exact rfl; exact rfl; apply s_len; exact rfl; exact el_36); (apply od_mv; exact rfl; exact rfl; apply s_move; exact rfl); (apply od_cmp; exact rfl; exact rfl; apply s_geq; exact rfl; exact rfl; all_goals (intro hc97; try (exfalso; (first | exact hc97 rfl | omega)))); all_goals (apply od_mv; exact rfl; exact rfl; apply s_move; exact rfl); all_goals (first | (apply od_gskip; exact rfl; exact rfl; exact rfl; (first | exact rfl | assumption); exact rfl) | (apply od_gmv; exact rfl; exact rfl; exact rfl; (first | exact rfl | assumption); exact rfl; apply s_move; exact rfl)); all_goals (first | (apply od_gskip; exact rfl; exact rfl; exact rfl; (first | exact rfl | assumption); exact rfl) | (apply od_gmv; exact rfl; exact rfl; exact rfl; (first | exact rfl | assumption); exact rfl; apply s_move; exact rfl)); all_goals (first | (apply od_gskip; exact rfl; exact rfl; exact rfl; (first | exact rfl | assumption); exact rfl) | (apply od_gmv; exact rfl; exact rfl; exact rfl; (first | exact rfl | assumption); exact rfl; apply s_slice; exact rfl; exact el_36; exact sz_22; exact rfl; exact Exists.intro _ rfl; exact rfl; (intro h; first | exact rfl | cases h); (first | omega | (simp; omega) | (simp; done)); (first | omega | (simp; omega) | (simp; done)); (first | omega | (simp; omega) | (simp; done)))); all_goals (first | (apply od_gskip; exact rfl; exact rfl; exact rfl; (first | exact rfl | assumption); exact rfl) | (apply od_gmv; exact rfl; exact rfl; exact rfl; (first | exact rfl | assumption); exact rfl; apply s_move; exact rfl)); all_goals (first | (apply od_gskip; exact rfl; exact rfl; exact rfl; (first | exact rfl | assumption); exact rfl) | (apply od_gmv; exact rfl; exact rfl; exact rfl; (first | exact rfl | assumption); exact rfl; apply s_move; exact rfl)); all_goals (first | (apply od_gskip; exact rfl; exact rfl; exact rfl; (first | exact rfl | assumption); exact rfl) | (apply od_gmv; exact rfl; exact rfl; exact rfl; (first | exact rfl | assumption); exact rfl; apply s_slice; exact rfl; exact el_36; exact sz_22; exact rfl; exact Exists.intro _ rfl; exact rfl; (intro h; first | exact rfl | cases h); (first | omega | (simp; omega) | (simp; done)); (first | omega | (simp; omega) | (simp; done)); (first | omega | (simp; omega) | (simp; done)))); all_goals (apply od_fx; (first | exact Wk.refl _ _ | (focus (apply Wk.mk; (first | exact View.le.refl _ | assumption | exact View.le.trans (by assumption) (by assumption)); (repeat constructor); done))); (first | (apply fx_gskip; exact rfl; exact rfl; exact rfl; (first | exact rfl | assumption); exact rfl) | (apply fx_gval; exact rfl; exact rfl; exact rfl; (first | exact rfl | assumption); exact rfl; apply s_callv; exact rfl; exact gf_19; (intro w' hw'; exact ksp w' N2 F2 (View.le.trans hN1 (View.le.trans hN2 hw'.le)) hw'.le hF2 i Q (by omega) e2 (hw'.ok_ (by (repeat (first | exact Has.here | apply Has.there)))) so2 x2)))); all_goals (apply od_mv; exact rfl; exact rfl; first | (apply s_pick_t; exact rfl; (first | exact rfl | assumption); exact rfl) | (apply s_pick_f; exact rfl; (first | exact rfl | assumption); exact rfl)); all_goals (apply od_mv; exact rfl; exact rfl; apply s_assign; exact rfl); all_goals (apply od_nil; (first | exact Wk.refl _ _ | (focus (apply Wk.mk; (first | exact View.le.refl _ | assumption | exact View.le.trans (by assumption) (by assumption)); (repeat constructor); done)))); all_goals (apply ol_nil))
              | (apply cw_cond_true; exact rfl; (first | exact rfl | assumption))
              | (apply cw_cond_false; exact rfl; (first | exact rfl | assumption))
              | apply cw_skip
              | apply cw_ret
              | apply cw_block
              | apply cw_exit
            all_goals (refine ends [] (RVal.tmp rfl RVal.nil) Pick.nil ?_; rfl)
      · clear hct hcut
        repeat' first
          | apply cw_seq
          | (refine cw_region_id 11 ?_; (apply ol_val; exact rfl; apply stp_cmp; apply s_lss; exact rfl; exact rfl; all_goals (intro hc50; try (exfalso; (first | exact hc50 rfl | omega)))); all_goals (apply ol_nil))
          | (refine cw_region_id 12 ?_; (apply ol_val; exact rfl; apply stp_pur; first | (apply s_indexK; exact rfl; exact rfl; exact el_36; exact sz_22; (first | exact rfl | exact sR.at_ (by omega)); omega) | (apply s_indexO; exact rfl; exact rfl; exact el_36; exact sz_22; (first | exact rfl | exact sR.at_ (by omega)); omega)); (apply ol_ld; exact rfl; exact rfl; exact rfl; (first | (apply RdN.own; (focus ((repeat constructor); done)); exact GetN.cons rfl GetN.nil) | (apply RdN.view; exact g1))); (apply ol_as; exact rfl; exact rfl); (apply ol_nil))
          | (refine cw_region_id 13 ?_; (apply ol_mv; exact rfl; exact rfl); (apply ol_mv; exact rfl; exact rfl); (apply ol_val; exact rfl; apply stp_pur; apply s_len; exact rfl; exact el_22); (apply ol_val; exact rfl; apply stp_pur; apply s_add64; exact rfl; exact rfl; omega); (apply ol_val; exact rfl; apply stp_pur; apply s_add64; exact rfl; exact rfl; omega); (apply ol_as; exact rfl; exact rfl); (apply ol_nil))
          | (refine cw_region_id 14 ?_; (apply ol_mv; exact rfl; exact rfl); (apply ol_mv; exact rfl; exact rfl); (apply ol_val; exact rfl; apply stp_cmp; apply s_gtr; exact rfl; exact rfl; all_goals (intro hc60; try (exfalso; (first | exact hc60 rfl | omega)))); all_goals (apply ol_nil))
          | (refine cw_region_id 15 ?_; (apply ol_mv; exact rfl; exact rfl); (apply ol_val; exact rfl; apply stp_pur; apply s_add64; exact rfl; exact rfl; omega); (apply ol_as; exact rfl; exact rfl); (apply ol_nil))
          | (refine cw_region_id 16 ?_; (apply ol_val; exact rfl; apply stp_pur; apply s_add64; exact rfl; exact rfl; omega); (apply ol_mv; exact rfl; exact rfl); (apply ol_nil))
          | (apply cw_cond_true; exact rfl; (first | exact rfl | assumption))
          | (apply cw_cond_false; exact rfl; (first | exact rfl | assumption))
          | apply cw_skip
          | apply cw_ret
          | apply cw_block
          | apply cw_exit
        exact ⟨i + 1, ⟨by rw [hgs]; (repeat (first | exact trivial | refine And.intro rfl ?_)), View.le.refl _, by (repeat (first | exact Pick.nil | (apply Pick.cons; (focus ((repeat (first | exact Spl.here | apply Spl.there)); done))) | exact Pick.refl)), ⟨hi', by omega⟩, by omega⟩⟩
    · obtain rfl : i = m := by omega
      omega
  · have ks := fun (w' : World) (hw' : View.le M (View.of w')) => short_no (c := cl) hw' hm sR hs
    repeat' first
      | apply cw_seq
      | (refine cw_region_id 0 ?_; (apply ol_as; exact rfl; exact rfl); (apply ol_nil))
      | (refine cw_region_id 1 ?_; (apply ol_val; exact rfl; apply s_callv; exact rfl; exact gf_10; (intro w' hw'; exact awake_spec hw'.le hL)); (apply ol_val; exact rfl; apply stp_pur; first | (apply s_not_t; exact rfl; (first | exact rfl | assumption)) | (apply s_not_f; exact rfl; (first | exact rfl | assumption)) | (apply s_not; exact rfl)); (apply ol_nil))
      | (refine cw_region_id 3 ?_; (apply ol_mv; exact rfl; exact rfl); (apply ol_val; exact rfl; apply s_callv; exact rfl; exact gf_26; (intro w' hw'; exact ks w' hw'.le)); (apply ol_val; exact rfl; apply stp_pur; first | (apply s_not_t; exact rfl; (first | exact rfl | assumption)) | (apply s_not_f; exact rfl; (first | exact rfl | assumption)) | (apply s_not; exact rfl)); (apply ol_mv; exact rfl; exact rfl); (first | (apply ol_gskip; exact rfl; exact rfl; (first | exact rfl | assumption); exact rfl) | (apply ol_gval; exact rfl; exact rfl; exact rfl; (first | exact rfl | assumption); apply stp_pur; apply s_move; exact rfl)); (first | (apply ol_gskip; exact rfl; exact rfl; (first | exact rfl | assumption); exact rfl) | (apply ol_gval; exact rfl; exact rfl; exact rfl; (first | exact rfl | assumption); apply stp_pur; apply s_len; exact rfl; exact el_36)); (first | (apply ol_gskip; exact rfl; exact rfl; (first | exact rfl | assumption); exact rfl) | (apply ol_gval; exact rfl; exact rfl; exact rfl; (first | exact rfl | assumption); apply stp_cmp; apply s_eql; exact rfl; exact rfl; all_goals (intro hc25; try (exfalso; (first | exact hc25 rfl | omega))))); all_goals (apply ol_val; exact rfl; apply stp_pur; first | (apply s_pick_t; exact rfl; (first | exact rfl | assumption); exact rfl) | (apply s_pick_f; exact rfl; (first | exact rfl | assumption); exact rfl)); all_goals (apply ol_nil))
      | (refine cw_region_id 4 ?_; (apply ol_as; exact rfl; exact rfl); (apply ol_nil))
      | (apply cw_cond_true; exact rfl; (first | exact rfl | assumption))
      | (apply cw_cond_false; exact rfl; (first | exact rfl | assumption))
      | apply cw_skip
      | apply cw_ret
      | apply cw_block
      | apply cw_exit
    refine ends [] (RVal.tmp rfl RVal.nil) Pick.nil ?_
    rfl
end Go.Proofs.YtelidojkpbaofaaDoor
