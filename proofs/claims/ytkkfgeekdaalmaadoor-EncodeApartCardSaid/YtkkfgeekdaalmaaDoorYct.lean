/-
  Texts joined: Q8 Q9 Q10 Q11 T2.
-/
import Derived.Test.YtkkfgeekdaalmaaDoorYcs
namespace Go.Proofs.YtkkfgeekdaalmaaDoor
set_option maxRecDepth 20000
set_option linter.unusedSimpArgs false
set_option linter.unusedVariables false
open Go Go.Fw
def sameH (a b : Hd) : Bool := decide (a.k = b.k ∧ a.n = b.n ∧ a.B.xs = b.B.xs ∧ a.m = b.m)
/-- The same item. -/
def sameI : (d : Nat) → It d → It d → Bool
  | 0, a, b => sameH a b
  | d + 1, a, b => sameH a.1 b.1 && (a.2.zip b.2).all fun p => sameI d p.1 p.2
/-- All of the item is read. -/
def fullI : (d : Nat) → It d → Prop
  | 0, h => h.m = 0
  | d + 1, p => ∀ y ∈ p.2, fullI d y
theorem full_of_ok {M : View} : ∀ {d : Nat} {x : It d}, ItV M d x → okI d x = true → fullI d x
  | 0, h, _, hk => by
    unfold okI okH at hk
    have := of_decide_eq_true hk
    show h.m = 0
    omega
  | d + 1, p, ⟨_, h2, _, h4⟩, hk => by
    intro y hy
    unfold okI at hk
    split at hk
    · rw [Bool.and_eq_true, List.all_eq_true] at hk
      exact full_of_ok (h4 y hy) (hk.2 y hy)
    · unfold okH at hk
      have := of_decide_eq_true hk
      have : p.2.length = 0 := by omega
      rw [List.length_eq_zero_iff.1 this] at hy
      cases hy
theorem sameI_head {d : Nat} {x y : It d} (h : sameH x.hd y.hd = false) : sameI d x y = false := by
  cases d with
  | zero => exact h
  | succ d => unfold sameI; rw [show sameH x.1 y.1 = false from h]; rfl
theorem sameH_iff {a b : Hd} : sameH a b = true ↔ a.k = b.k ∧ a.n = b.n ∧ a.B.xs = b.B.xs ∧ a.m = b.m := decide_eq_true_iff
/-- Valid items with the same encoding are the same. -/
theorem sameH_enc {a b : Hd} (ha : okH a = true) (hb : okH b = true) (hl1 : a.B.xs.length < 4294967296) (hl2 : b.B.xs.length < 4294967296) (na : -9223372036854775808 ≤ a.n ∧ a.n ≤ 9223372036854775807) (nb : -9223372036854775808 ≤ b.n ∧ b.n ≤ 9223372036854775807) (h : encH a = encH b) : sameH a b = true := by
  unfold okH at ha hb
  have ha := of_decide_eq_true ha
  have hb := of_decide_eq_true hb
  unfold encH at h
  rw [sameH_iff]
  by_cases k1 : a.k = 1
  · rw [if_pos k1] at h
    by_cases k2 : b.k = 1
    · rw [if_pos k2] at h
      injection h with _ h
      have h := congrArg numB h
      rw [numB_bI, numB_bI] at h
      have h8 : (256 : Nat) ^ 8 = 18446744073709551616 := by decide
      have u1 := u64_lt a.n
      have u2 := u64_lt b.n
      rw [h8, Nat.mod_eq_of_lt u1, Nat.mod_eq_of_lt u2] at h
      have e1 := i64_u64 na
      have e2 := i64_u64 nb
      rw [h] at e1
      refine ⟨by omega, by omega, ?_, by omega⟩
      rw [List.length_eq_zero_iff.1 (by omega : a.B.xs.length = 0), List.length_eq_zero_iff.1 (by omega : b.B.xs.length = 0)]
    · rw [if_neg k2] at h
      injection h with h _
      cases h
  · rw [if_neg k1] at h
    by_cases k2 : b.k = 1
    · rw [if_pos k2] at h
      injection h with h _
      cases h
    · rw [if_neg k2] at h
      injection h with _ h
      obtain ⟨_, h2⟩ := List.append_inj h (by rw [bI_length, bI_length])
      exact ⟨by omega, by omega, h2, by omega⟩
theorem encI_k {d : Nat} {x y : It d} (hx : okI d x = true) (hy : okI d y = true) {r s : List Int} (h : encI d x ++ r = encI d y ++ s) : x.hd.k = y.hd.k := by
  have key : ∀ {z : It d}, okI d z = true → ∀ t, (encI d z ++ t).head? = some z.hd.k := by
    intro z hz t
    cases d with
    | zero =>
      have hz : okH z = true := hz
      unfold okH at hz
      have hz := of_decide_eq_true hz
      show (encH z ++ t).head? = some z.k
      unfold encH
      split
      · rename_i h; rw [h]; rfl
      · rw [show z.k = 2 by omega]; rfl
    | succ d =>
      by_cases h3 : z.1.k = 3
      · unfold encI; rw [if_pos h3]
        show some 3 = some z.1.k
        rw [h3]
      · have hz' : okH z.1 = true := by have := hz; unfold okI at this; rw [if_neg h3] at this; exact this
        unfold okH at hz'
        have hz' := of_decide_eq_true hz'
        unfold encI; rw [if_neg h3]
        show (encH z.1 ++ t).head? = some z.1.k
        unfold encH
        split
        · rename_i h; rw [h]; rfl
        · rw [show z.1.k = 2 by omega]; rfl
  have h1 := key hx r
  rw [h, key hy s] at h1
  injection h1 with h1
  exact h1.symm
theorem sameI_enc : ∀ {d : Nat} {x y : It d}, okI d x = true → okI d y = true → shI d x → shI d y → rgI d x → rgI d y → encI d x = encI d y → sameI d x y = true
  | 0, x, y, hx, hy, sx, sy, rx, ry, h => sameH_enc hx hy sx sy rx ry h
  | d + 1, x, y, hx, hy, ⟨sx1, sx2, sx3⟩, ⟨sy1, sy2, sy3⟩, ⟨rx1, rx2⟩, ⟨ry1, ry2⟩, h => by
    have hk := encI_k hx hy (r := []) (s := []) (by rw [h])
    have hk : x.1.k = y.1.k := hk
    by_cases h3 : x.1.k = 3
    · have h3' : y.1.k = 3 := by omega
      unfold okI at hx hy
      rw [if_pos h3, Bool.and_eq_true, decide_eq_true_iff, List.all_eq_true] at hx
      rw [if_pos h3', Bool.and_eq_true, decide_eq_true_iff, List.all_eq_true] at hy
      unfold encI at h
      rw [if_pos h3, if_pos h3'] at h
      injection h with _ h
      obtain ⟨h1, h2⟩ := List.append_inj h (by rw [bI_length, bI_length])
      have h1 := congrArg numB h1
      have h44 : (256 : Nat) ^ 4 = 4294967296 := by decide
      rw [numB_bI, numB_bI, h44, Nat.mod_eq_of_lt (by omega), Nat.mod_eq_of_lt (by omega)] at h1
      have key : ∀ (L L' : List (It d)), (∀ z ∈ L, okI d z = true ∧ shI d z ∧ rgI d z) → (∀ z ∈ L', okI d z = true ∧ shI d z ∧ rgI d z) → L.length = L'.length → L.flatMap (encI d) = L'.flatMap (encI d) → ((L.zip L').all fun p => sameI d p.1 p.2) = true := by
        intro L
        induction L with
        | nil => intro L' _ _ hl _; rfl
        | cons z L ihL =>
          intro L' hL hL' hl he
          match L', hL', hl, he with
          | z' :: L', hL', hl, he =>
            rw [List.flatMap_cons, List.flatMap_cons] at he
            obtain ⟨a1, a2, a3⟩ := hL z (List.mem_cons_self ..)
            obtain ⟨b1, b2, b3⟩ := hL' z' (List.mem_cons_self ..)
            have g1 := rdE_enc a1 a2 (L.flatMap (encI d))
            have g2 := rdE_enc b1 b2 (L'.flatMap (encI d))
            rw [he, g2] at g1
            injection g1 with _ g1
            rw [← g1] at he
            have he := List.append_cancel_right he
            rw [List.zip_cons_cons, List.all_cons, sameI_enc a1 b1 a2 b2 a3 b3 he, Bool.true_and]
            exact ihL L' (fun z hz => hL z (List.mem_cons_of_mem _ hz)) (fun z hz => hL' z (List.mem_cons_of_mem _ hz)) (by simpa using hl) g1.symm
      unfold sameI
      rw [Bool.and_eq_true]
      refine ⟨sameH_iff.2 ⟨hk, by omega, ?_, h1⟩, key _ _ (fun z hz => ⟨hx.2 z hz, sx3 z hz, rx2 z hz⟩) (fun z hz => ⟨hy.2 z hz, sy3 z hz, ry2 z hz⟩) (by omega) h2⟩
      rw [List.length_eq_zero_iff.1 hx.1.2.1, List.length_eq_zero_iff.1 hy.1.2.1]
    · have hx' : okH x.1 = true := by have := hx; unfold okI at this; rw [if_neg h3] at this; exact this
      have hy' : okH y.1 = true := by have := hy; unfold okI at this; rw [if_neg (by omega)] at this; exact this
      have he : encH x.1 = encH y.1 := by have := h; unfold encI at this; rw [if_neg h3, if_neg (by omega)] at this; exact this
      have hm : x.2 = [] := by
        unfold okH at hx'
        have := of_decide_eq_true hx'
        exact List.length_eq_zero_iff.1 (by omega)
      unfold sameI
      rw [sameH_enc hx' hy' sx1 sy1 rx1 ry1 he, hm]
      rfl
end Go.Proofs.YtkkfgeekdaalmaaDoor
namespace Go.Proofs.YtkkfgeekdaalmaaDoor
set_option maxRecDepth 20000
set_option linter.unusedSimpArgs false
set_option linter.unusedVariables false
open Go Go.Fw
theorem sameH_cases (k k2 n n2 : Int) (xs ys : List Int) (m m2 : Nat) (h : ¬ (k = k2 ∧ n = n2 ∧ xs = ys ∧ m = m2)) : k ≠ k2 ∨ (k = k2 ∧ n ≠ n2) ∨ (k = k2 ∧ n = n2 ∧ xs ≠ ys) ∨ (k = k2 ∧ n = n2 ∧ xs = ys ∧ m ≠ m2) := by
  by_cases h1 : k = k2
  · by_cases h2 : n = n2
    · by_cases h3 : xs = ys
      · exact .inr (.inr (.inr ⟨h1, h2, h3, fun h4 => h ⟨h1, h2, h3, h4⟩⟩))
      · exact .inr (.inr (.inl ⟨h1, h2, h3⟩))
    · exact .inr (.inl ⟨h1, h2⟩)
  · exact .inl h1
end Go.Proofs.YtkkfgeekdaalmaaDoor
namespace Go.Proofs.YtkkfgeekdaalmaaDoor
set_option maxRecDepth 20000
set_option linter.unusedSimpArgs false
set_option linter.unusedVariables false
open Go Go.Fw
attribute [local irreducible] CW OL OD FX Stp FnC FnV FnA FnM Ret bI encI okI numB rdE rdN strOf
set_option maxHeartbeats 3200000
theorem bequal_spec {M : View} {w : World} (hM : View.le M (View.of w)) {l l' : List Int} {n n' c c' : Nat} (hn : l.length = n) (hn' : l'.length = n') (hl : ∀ x ∈ l, 0 ≤ x ∧ x ≤ 255) (hl' : ∀ x ∈ l', 0 ≤ x ∧ x ≤ 255) {a a' : Option Addr} {b o b' o' : Nat} (s : SlA M (eK .u8) 1 a l b o) (s' : SlA M (eK .u8) 1 a' l' b' o') :
    FnC Tryd.prog 16 [.slice a n c, .slice a' n' c'] w (fun v _ => v = .bool (decide (l = l'))) := by
  refine enterF (M := M) Tryd.func16 rfl rfl rfl rfl hM ?_
  have hbe := strOf_beq hl hl'
  repeat' first
    | apply cw_seq
    | (refine cw_region_id 0 ?_; (apply ol_as; rfl; rfl); (apply ol_nil))
    | (refine cw_region_id 1 ?_; (apply ol_mv; rfl; rfl); (apply ol_val; rfl; apply stp_pur; apply s_convBS; rfl; exact el_22; exact tdInt_eq ti_5; exact us_9; (first | exact s.atn hn | exact s'.atn hn'); (first | exact hn | exact hn'); (first | exact s.rd hn | exact s'.rd hn')); (apply ol_mv; rfl; rfl); (apply ol_val; rfl; apply stp_pur; apply s_convBS; rfl; exact el_22; exact tdInt_eq ti_5; exact us_9; (first | exact s.atn hn | exact s'.atn hn'); (first | exact hn | exact hn'); (first | exact s.rd hn | exact s'.rd hn')); (apply ol_val; rfl; apply stp_pur; apply s_eqlStr; rfl; rfl); (apply ol_as; rfl; rfl); (apply ol_nil))
    | (apply cw_cond_true; rfl; exact qA)
    | (apply cw_cond_false; rfl; exact qA)
    | apply cw_skip
    | apply cw_ret
    | apply cw_block
    | apply cw_exit
  refine ends [] (RVal.tmp rfl RVal.nil) Pick.nil ?_
  exact congrArg Value.bool hbe
theorem rsame_no {M : View} {w : World} (hM : View.le M (View.of w)) {d : Nat} {x y : It d} (hx : HdV M x.hd) (hy : HdV M y.hd) (h : sameH x.hd y.hd = false) :
    FnC Tryd.prog 19 [.agg x.enc.toArray, .agg y.enc.toArray] w (fun v _ => v = .bool false) := by
  unfold It.enc
  generalize x.hd = a at *
  generalize y.hd = b at *
  obtain ⟨k, n, ⟨xs, Ba, Bb, Bo, Bc⟩, La, Lb, Lo, Lc, m⟩ := a
  obtain ⟨k2, n2, ⟨ys, Ba2, Bb2, Bo2, Bc2⟩, La2, Lb2, Lo2, Lc2, m2⟩ := b
  have hcs := sameH_cases k k2 n n2 xs ys m m2 (of_decide_eq_false h)
  clear h
  obtain ⟨sB, hb, _, _⟩ := hx
  obtain ⟨sB2, hb2, _, _⟩ := hy
  dsimp only at sB sB2 hb hb2 ⊢
  have hbe := strOf_beq hb hb2
  refine enterF (M := M) Tryd.func19 rfl rfl rfl rfl hM ?_
  rcases hcs with h | ⟨rfl, h⟩ | ⟨rfl, rfl, h⟩ | ⟨rfl, rfl, rfl, h⟩
  ·
    repeat' first
      | apply cw_seq
      | (refine cw_region_id 0 ?_; (apply ol_val; rfl; first | (apply s_boxN; rfl; intro bk2) | (apply s_box1; rfl; rfl; intro bk2)); (apply ol_val; rfl; first | (apply s_boxN; rfl; intro bk3) | (apply s_box1; rfl; rfl; intro bk3)); (apply ol_as; rfl; rfl); (apply ol_nil))
      | (refine cw_region_id 1 ?_; (apply ol_fa; rfl; rfl; exact fd_25_0; exact qZ); (apply ol_ld; rfl; rfl; rfl; exact qP); (apply ol_fa; rfl; rfl; exact fd_25_0; exact qZ); (apply ol_ld; rfl; rfl; rfl; exact qP); (apply ol_val; rfl; apply stp_cmp; apply s_neq; rfl; rfl; all_goals (intro hc10; try (exfalso; (first | exact hc10 rfl | omega)))); all_goals (apply ol_mv; rfl; rfl); all_goals (first | (apply ol_gskip; rfl; rfl; exact qA; rfl) | (apply ol_gval; rfl; rfl; rfl; exact qA; apply stp_pur; apply s_fieldAddr'; rfl; exact fd_25_1; exact qZ)); all_goals (first | (apply ol_gskip; rfl; rfl; exact qA; rfl) | (apply ol_gval; rfl; rfl; rfl; exact qA; apply stp_pur; apply s_load1; rfl; rfl; exact qP)); all_goals (first | (apply ol_gskip; rfl; rfl; exact qA; rfl) | (apply ol_gval; rfl; rfl; rfl; exact qA; apply stp_pur; apply s_fieldAddr'; rfl; exact fd_25_1; exact qZ)); all_goals (first | (apply ol_gskip; rfl; rfl; exact qA; rfl) | (apply ol_gval; rfl; rfl; rfl; exact qA; apply stp_pur; apply s_load1; rfl; rfl; exact qP)); all_goals (first | (apply ol_gskip; rfl; rfl; exact qA; rfl) | (apply ol_gval; rfl; rfl; rfl; exact qA; apply stp_cmp; apply s_neq; rfl; rfl; all_goals (intro hc16; try (exfalso; (first | exact hc16 rfl | omega))))); all_goals (apply ol_val; rfl; apply stp_pur; first | (apply s_pick_t; rfl; exact qA; rfl) | (apply s_pick_f; rfl; exact qA; rfl)); all_goals (apply ol_mv; rfl; rfl); all_goals (first | (apply ol_gskip; rfl; rfl; exact qA; rfl) | (apply ol_gval; rfl; rfl; rfl; exact qA; apply stp_pur; apply s_fieldAddr'; rfl; exact fd_25_2; exact qZ)); all_goals (first | (apply ol_gskip; rfl; rfl; exact qA; rfl) | (apply ol_gval; rfl; rfl; rfl; exact qA; apply stp_pur; apply s_load1; rfl; rfl; exact qP)); all_goals (apply ol_gskip; rfl; rfl; exact qA; rfl); all_goals (first | (apply ol_gskip; rfl; rfl; exact qA; rfl) | (apply ol_gval; rfl; rfl; rfl; exact qA; apply stp_pur; apply s_fieldAddr'; rfl; exact fd_25_2; exact qZ)); all_goals (first | (apply ol_gskip; rfl; rfl; exact qA; rfl) | (apply ol_gval; rfl; rfl; rfl; exact qA; apply stp_pur; apply s_load1; rfl; rfl; exact qP)); all_goals (apply ol_gskip; rfl; rfl; exact qA; rfl); all_goals (first | (apply ol_gskip; rfl; rfl; exact qA; rfl) | (apply ol_gval; rfl; rfl; rfl; exact qA; apply stp_pur; apply s_neqStr; rfl; rfl)); all_goals (apply ol_val; rfl; apply stp_pur; first | (apply s_pick_t; rfl; exact qA; rfl) | (apply s_pick_f; rfl; exact qA; rfl)); all_goals (apply ol_mv; rfl; rfl); all_goals (first | (apply ol_gskip; rfl; rfl; exact qA; rfl) | (apply ol_gval; rfl; rfl; rfl; exact qA; apply stp_pur; apply s_fieldAddr'; rfl; exact fd_25_3; exact qZ)); all_goals (first | (apply ol_gskip; rfl; rfl; exact qA; rfl) | (apply ol_gval; rfl; rfl; rfl; exact qA; apply stp_pur; apply s_load1; rfl; rfl; exact qP)); all_goals (first | (apply ol_gskip; rfl; rfl; exact qA; rfl) | (apply ol_gval; rfl; rfl; rfl; exact qA; apply stp_pur; apply s_len; rfl; exact el_23)); all_goals (first | (apply ol_gskip; rfl; rfl; exact qA; rfl) | (apply ol_gval; rfl; rfl; rfl; exact qA; apply stp_pur; apply s_fieldAddr'; rfl; exact fd_25_3; exact qZ)); all_goals (first | (apply ol_gskip; rfl; rfl; exact qA; rfl) | (apply ol_gval; rfl; rfl; rfl; exact qA; apply stp_pur; apply s_load1; rfl; rfl; exact qP)); all_goals (first | (apply ol_gskip; rfl; rfl; exact qA; rfl) | (apply ol_gval; rfl; rfl; rfl; exact qA; apply stp_pur; apply s_len; rfl; exact el_23)); all_goals (first | (apply ol_gskip; rfl; rfl; exact qA; rfl) | (apply ol_gval; rfl; rfl; rfl; exact qA; apply stp_cmp; apply s_neq; rfl; rfl; all_goals (intro hc34; try (exfalso; (first | exact hc34 rfl | omega))))); all_goals (apply ol_val; rfl; apply stp_pur; first | (apply s_pick_t; rfl; exact qA; rfl) | (apply s_pick_f; rfl; exact qA; rfl)); all_goals (apply ol_nil))
      | (refine cw_region_id 2 ?_; (apply ol_as; rfl; rfl); (apply ol_nil))
      | (apply cw_cond_true; rfl; exact qA)
      | (apply cw_cond_false; rfl; exact qA)
      | apply cw_skip
      | apply cw_ret
      | apply cw_block
      | apply cw_exit
    all_goals (refine ends [] (RVal.tmp rfl RVal.nil) Pick.nil ?_; rfl)
  ·
    repeat' first
      | apply cw_seq
      | (refine cw_region_id 0 ?_; (apply ol_val; rfl; first | (apply s_boxN; rfl; intro bk2) | (apply s_box1; rfl; rfl; intro bk2)); (apply ol_val; rfl; first | (apply s_boxN; rfl; intro bk3) | (apply s_box1; rfl; rfl; intro bk3)); (apply ol_as; rfl; rfl); (apply ol_nil))
      | (refine cw_region_id 1 ?_; (apply ol_fa; rfl; rfl; exact fd_25_0; exact qZ); (apply ol_ld; rfl; rfl; rfl; exact qP); (apply ol_fa; rfl; rfl; exact fd_25_0; exact qZ); (apply ol_ld; rfl; rfl; rfl; exact qP); (apply ol_val; rfl; apply stp_cmp; apply s_neq; rfl; rfl; all_goals (intro hc10; try (exfalso; (first | exact hc10 rfl | omega)))); all_goals (apply ol_mv; rfl; rfl); all_goals (first | (apply ol_gskip; rfl; rfl; exact qA; rfl) | (apply ol_gval; rfl; rfl; rfl; exact qA; apply stp_pur; apply s_fieldAddr'; rfl; exact fd_25_1; exact qZ)); all_goals (first | (apply ol_gskip; rfl; rfl; exact qA; rfl) | (apply ol_gval; rfl; rfl; rfl; exact qA; apply stp_pur; apply s_load1; rfl; rfl; exact qP)); all_goals (first | (apply ol_gskip; rfl; rfl; exact qA; rfl) | (apply ol_gval; rfl; rfl; rfl; exact qA; apply stp_pur; apply s_fieldAddr'; rfl; exact fd_25_1; exact qZ)); all_goals (first | (apply ol_gskip; rfl; rfl; exact qA; rfl) | (apply ol_gval; rfl; rfl; rfl; exact qA; apply stp_pur; apply s_load1; rfl; rfl; exact qP)); all_goals (first | (apply ol_gskip; rfl; rfl; exact qA; rfl) | (apply ol_gval; rfl; rfl; rfl; exact qA; apply stp_cmp; apply s_neq; rfl; rfl; all_goals (intro hc16; try (exfalso; (first | exact hc16 rfl | omega))))); all_goals (apply ol_val; rfl; apply stp_pur; first | (apply s_pick_t; rfl; exact qA; rfl) | (apply s_pick_f; rfl; exact qA; rfl)); all_goals (apply ol_mv; rfl; rfl); all_goals (first | (apply ol_gskip; rfl; rfl; exact qA; rfl) | (apply ol_gval; rfl; rfl; rfl; exact qA; apply stp_pur; apply s_fieldAddr'; rfl; exact fd_25_2; exact qZ)); all_goals (first | (apply ol_gskip; rfl; rfl; exact qA; rfl) | (apply ol_gval; rfl; rfl; rfl; exact qA; apply stp_pur; apply s_load1; rfl; rfl; exact qP)); all_goals (apply ol_gskip; rfl; rfl; exact qA; rfl); all_goals (first | (apply ol_gskip; rfl; rfl; exact qA; rfl) | (apply ol_gval; rfl; rfl; rfl; exact qA; apply stp_pur; apply s_fieldAddr'; rfl; exact fd_25_2; exact qZ)); all_goals (first | (apply ol_gskip; rfl; rfl; exact qA; rfl) | (apply ol_gval; rfl; rfl; rfl; exact qA; apply stp_pur; apply s_load1; rfl; rfl; exact qP)); all_goals (apply ol_gskip; rfl; rfl; exact qA; rfl); all_goals (first | (apply ol_gskip; rfl; rfl; exact qA; rfl) | (apply ol_gval; rfl; rfl; rfl; exact qA; apply stp_pur; apply s_neqStr; rfl; rfl)); all_goals (apply ol_val; rfl; apply stp_pur; first | (apply s_pick_t; rfl; exact qA; rfl) | (apply s_pick_f; rfl; exact qA; rfl)); all_goals (apply ol_mv; rfl; rfl); all_goals (first | (apply ol_gskip; rfl; rfl; exact qA; rfl) | (apply ol_gval; rfl; rfl; rfl; exact qA; apply stp_pur; apply s_fieldAddr'; rfl; exact fd_25_3; exact qZ)); all_goals (first | (apply ol_gskip; rfl; rfl; exact qA; rfl) | (apply ol_gval; rfl; rfl; rfl; exact qA; apply stp_pur; apply s_load1; rfl; rfl; exact qP)); all_goals (first | (apply ol_gskip; rfl; rfl; exact qA; rfl) | (apply ol_gval; rfl; rfl; rfl; exact qA; apply stp_pur; apply s_len; rfl; exact el_23)); all_goals (first | (apply ol_gskip; rfl; rfl; exact qA; rfl) | (apply ol_gval; rfl; rfl; rfl; exact qA; apply stp_pur; apply s_fieldAddr'; rfl; exact fd_25_3; exact qZ)); all_goals (first | (apply ol_gskip; rfl; rfl; exact qA; rfl) | (apply ol_gval; rfl; rfl; rfl; exact qA; apply stp_pur; apply s_load1; rfl; rfl; exact qP)); all_goals (first | (apply ol_gskip; rfl; rfl; exact qA; rfl) | (apply ol_gval; rfl; rfl; rfl; exact qA; apply stp_pur; apply s_len; rfl; exact el_23)); all_goals (first | (apply ol_gskip; rfl; rfl; exact qA; rfl) | (apply ol_gval; rfl; rfl; rfl; exact qA; apply stp_cmp; apply s_neq; rfl; rfl; all_goals (intro hc34; try (exfalso; (first | exact hc34 rfl | omega))))); all_goals (apply ol_val; rfl; apply stp_pur; first | (apply s_pick_t; rfl; exact qA; rfl) | (apply s_pick_f; rfl; exact qA; rfl)); all_goals (apply ol_nil))
      | (refine cw_region_id 2 ?_; (apply ol_as; rfl; rfl); (apply ol_nil))
      | (apply cw_cond_true; rfl; exact qA)
      | (apply cw_cond_false; rfl; exact qA)
      | apply cw_skip
      | apply cw_ret
      | apply cw_block
      | apply cw_exit
    all_goals (refine ends [] (RVal.tmp rfl RVal.nil) Pick.nil ?_; rfl)
  · rw [decide_eq_false h] at hbe
    have hbn : (!((strOf xs).toList == (strOf ys).toList)) = true := by rw [hbe]; rfl
    repeat' first
      | apply cw_seq
      | (refine cw_region_id 0 ?_; (apply ol_val; rfl; first | (apply s_boxN; rfl; intro bk2) | (apply s_box1; rfl; rfl; intro bk2)); (apply ol_val; rfl; first | (apply s_boxN; rfl; intro bk3) | (apply s_box1; rfl; rfl; intro bk3)); (apply ol_as; rfl; rfl); (apply ol_nil))
      | (refine cw_region_id 1 ?_; (apply ol_fa; rfl; rfl; exact fd_25_0; exact qZ); (apply ol_ld; rfl; rfl; rfl; exact qP); (apply ol_fa; rfl; rfl; exact fd_25_0; exact qZ); (apply ol_ld; rfl; rfl; rfl; exact qP); (apply ol_val; rfl; apply stp_cmp; apply s_neq; rfl; rfl; all_goals (intro hc10; try (exfalso; (first | exact hc10 rfl | omega)))); all_goals (apply ol_mv; rfl; rfl); all_goals (first | (apply ol_gskip; rfl; rfl; exact qA; rfl) | (apply ol_gval; rfl; rfl; rfl; exact qA; apply stp_pur; apply s_fieldAddr'; rfl; exact fd_25_1; exact qZ)); all_goals (first | (apply ol_gskip; rfl; rfl; exact qA; rfl) | (apply ol_gval; rfl; rfl; rfl; exact qA; apply stp_pur; apply s_load1; rfl; rfl; exact qP)); all_goals (first | (apply ol_gskip; rfl; rfl; exact qA; rfl) | (apply ol_gval; rfl; rfl; rfl; exact qA; apply stp_pur; apply s_fieldAddr'; rfl; exact fd_25_1; exact qZ)); all_goals (first | (apply ol_gskip; rfl; rfl; exact qA; rfl) | (apply ol_gval; rfl; rfl; rfl; exact qA; apply stp_pur; apply s_load1; rfl; rfl; exact qP)); all_goals (first | (apply ol_gskip; rfl; rfl; exact qA; rfl) | (apply ol_gval; rfl; rfl; rfl; exact qA; apply stp_cmp; apply s_neq; rfl; rfl; all_goals (intro hc16; try (exfalso; (first | exact hc16 rfl | omega))))); all_goals (apply ol_val; rfl; apply stp_pur; first | (apply s_pick_t; rfl; exact qA; rfl) | (apply s_pick_f; rfl; exact qA; rfl)); all_goals (apply ol_mv; rfl; rfl); all_goals (first | (apply ol_gskip; rfl; rfl; exact qA; rfl) | (apply ol_gval; rfl; rfl; rfl; exact qA; apply stp_pur; apply s_fieldAddr'; rfl; exact fd_25_2; exact qZ)); all_goals (first | (apply ol_gskip; rfl; rfl; exact qA; rfl) | (apply ol_gval; rfl; rfl; rfl; exact qA; apply stp_pur; apply s_load1; rfl; rfl; exact qP)); all_goals (first | (apply ol_gskip; rfl; rfl; exact qA; rfl) | (apply ol_gval; rfl; rfl; rfl; exact qA; apply stp_pur; first | (apply s_convBS; rfl; exact el_22; exact tdInt_eq ti_5; exact us_9; exact sB.atn rfl; rfl; exact sB.rd rfl) | (apply s_convBS; rfl; exact el_22; exact tdInt_eq ti_5; exact us_9; exact sB2.atn rfl; rfl; exact sB2.rd rfl))); all_goals (first | (apply ol_gskip; rfl; rfl; exact qA; rfl) | (apply ol_gval; rfl; rfl; rfl; exact qA; apply stp_pur; apply s_fieldAddr'; rfl; exact fd_25_2; exact qZ)); all_goals (first | (apply ol_gskip; rfl; rfl; exact qA; rfl) | (apply ol_gval; rfl; rfl; rfl; exact qA; apply stp_pur; apply s_load1; rfl; rfl; exact qP)); all_goals (first | (apply ol_gskip; rfl; rfl; exact qA; rfl) | (apply ol_gval; rfl; rfl; rfl; exact qA; apply stp_pur; first | (apply s_convBS; rfl; exact el_22; exact tdInt_eq ti_5; exact us_9; exact sB.atn rfl; rfl; exact sB.rd rfl) | (apply s_convBS; rfl; exact el_22; exact tdInt_eq ti_5; exact us_9; exact sB2.atn rfl; rfl; exact sB2.rd rfl))); all_goals (first | (apply ol_gskip; rfl; rfl; exact qA; rfl) | (apply ol_gval; rfl; rfl; rfl; exact qA; apply stp_pur; apply s_neqStr; rfl; rfl)); all_goals (apply ol_val; rfl; apply stp_pur; first | (apply s_pick_t; rfl; exact qA; rfl) | (apply s_pick_f; rfl; exact qA; rfl)); all_goals (apply ol_mv; rfl; rfl); all_goals (first | (apply ol_gskip; rfl; rfl; exact qA; rfl) | (apply ol_gval; rfl; rfl; rfl; exact qA; apply stp_pur; apply s_fieldAddr'; rfl; exact fd_25_3; exact qZ)); all_goals (first | (apply ol_gskip; rfl; rfl; exact qA; rfl) | (apply ol_gval; rfl; rfl; rfl; exact qA; apply stp_pur; apply s_load1; rfl; rfl; exact qP)); all_goals (first | (apply ol_gskip; rfl; rfl; exact qA; rfl) | (apply ol_gval; rfl; rfl; rfl; exact qA; apply stp_pur; apply s_len; rfl; exact el_23)); all_goals (first | (apply ol_gskip; rfl; rfl; exact qA; rfl) | (apply ol_gval; rfl; rfl; rfl; exact qA; apply stp_pur; apply s_fieldAddr'; rfl; exact fd_25_3; exact qZ)); all_goals (first | (apply ol_gskip; rfl; rfl; exact qA; rfl) | (apply ol_gval; rfl; rfl; rfl; exact qA; apply stp_pur; apply s_load1; rfl; rfl; exact qP)); all_goals (first | (apply ol_gskip; rfl; rfl; exact qA; rfl) | (apply ol_gval; rfl; rfl; rfl; exact qA; apply stp_pur; apply s_len; rfl; exact el_23)); all_goals (first | (apply ol_gskip; rfl; rfl; exact qA; rfl) | (apply ol_gval; rfl; rfl; rfl; exact qA; apply stp_cmp; apply s_neq; rfl; rfl; all_goals (intro hc34; try (exfalso; (first | exact hc34 rfl | omega))))); all_goals (apply ol_val; rfl; apply stp_pur; first | (apply s_pick_t; rfl; exact qA; rfl) | (apply s_pick_f; rfl; exact qA; rfl)); all_goals (apply ol_nil))
      | (refine cw_region_id 2 ?_; (apply ol_as; rfl; rfl); (apply ol_nil))
      | (apply cw_cond_true; rfl; exact qA)
      | (apply cw_cond_false; rfl; exact qA)
      | apply cw_skip
      | apply cw_ret
      | apply cw_block
      | apply cw_exit
    all_goals (refine ends [] (RVal.tmp rfl RVal.nil) Pick.nil ?_; rfl)
  · rw [decide_eq_true rfl] at hbe
    have hbn : (!((strOf xs).toList == (strOf xs).toList)) = false := by rw [hbe]; rfl
    repeat' first
      | apply cw_seq
      | (refine cw_region_id 0 ?_; (apply ol_val; rfl; first | (apply s_boxN; rfl; intro bk2) | (apply s_box1; rfl; rfl; intro bk2)); (apply ol_val; rfl; first | (apply s_boxN; rfl; intro bk3) | (apply s_box1; rfl; rfl; intro bk3)); (apply ol_as; rfl; rfl); (apply ol_nil))
      | (refine cw_region_id 1 ?_; (apply ol_fa; rfl; rfl; exact fd_25_0; exact qZ); (apply ol_ld; rfl; rfl; rfl; exact qP); (apply ol_fa; rfl; rfl; exact fd_25_0; exact qZ); (apply ol_ld; rfl; rfl; rfl; exact qP); (apply ol_val; rfl; apply stp_cmp; apply s_neq; rfl; rfl; all_goals (intro hc10; try (exfalso; (first | exact hc10 rfl | omega)))); all_goals (apply ol_mv; rfl; rfl); all_goals (first | (apply ol_gskip; rfl; rfl; exact qA; rfl) | (apply ol_gval; rfl; rfl; rfl; exact qA; apply stp_pur; apply s_fieldAddr'; rfl; exact fd_25_1; exact qZ)); all_goals (first | (apply ol_gskip; rfl; rfl; exact qA; rfl) | (apply ol_gval; rfl; rfl; rfl; exact qA; apply stp_pur; apply s_load1; rfl; rfl; exact qP)); all_goals (first | (apply ol_gskip; rfl; rfl; exact qA; rfl) | (apply ol_gval; rfl; rfl; rfl; exact qA; apply stp_pur; apply s_fieldAddr'; rfl; exact fd_25_1; exact qZ)); all_goals (first | (apply ol_gskip; rfl; rfl; exact qA; rfl) | (apply ol_gval; rfl; rfl; rfl; exact qA; apply stp_pur; apply s_load1; rfl; rfl; exact qP)); all_goals (first | (apply ol_gskip; rfl; rfl; exact qA; rfl) | (apply ol_gval; rfl; rfl; rfl; exact qA; apply stp_cmp; apply s_neq; rfl; rfl; all_goals (intro hc16; try (exfalso; (first | exact hc16 rfl | omega))))); all_goals (apply ol_val; rfl; apply stp_pur; first | (apply s_pick_t; rfl; exact qA; rfl) | (apply s_pick_f; rfl; exact qA; rfl)); all_goals (apply ol_mv; rfl; rfl); all_goals (first | (apply ol_gskip; rfl; rfl; exact qA; rfl) | (apply ol_gval; rfl; rfl; rfl; exact qA; apply stp_pur; apply s_fieldAddr'; rfl; exact fd_25_2; exact qZ)); all_goals (first | (apply ol_gskip; rfl; rfl; exact qA; rfl) | (apply ol_gval; rfl; rfl; rfl; exact qA; apply stp_pur; apply s_load1; rfl; rfl; exact qP)); all_goals (first | (apply ol_gskip; rfl; rfl; exact qA; rfl) | (apply ol_gval; rfl; rfl; rfl; exact qA; apply stp_pur; first | (apply s_convBS; rfl; exact el_22; exact tdInt_eq ti_5; exact us_9; exact sB.atn rfl; rfl; exact sB.rd rfl) | (apply s_convBS; rfl; exact el_22; exact tdInt_eq ti_5; exact us_9; exact sB2.atn rfl; rfl; exact sB2.rd rfl))); all_goals (first | (apply ol_gskip; rfl; rfl; exact qA; rfl) | (apply ol_gval; rfl; rfl; rfl; exact qA; apply stp_pur; apply s_fieldAddr'; rfl; exact fd_25_2; exact qZ)); all_goals (first | (apply ol_gskip; rfl; rfl; exact qA; rfl) | (apply ol_gval; rfl; rfl; rfl; exact qA; apply stp_pur; apply s_load1; rfl; rfl; exact qP)); all_goals (first | (apply ol_gskip; rfl; rfl; exact qA; rfl) | (apply ol_gval; rfl; rfl; rfl; exact qA; apply stp_pur; first | (apply s_convBS; rfl; exact el_22; exact tdInt_eq ti_5; exact us_9; exact sB.atn rfl; rfl; exact sB.rd rfl) | (apply s_convBS; rfl; exact el_22; exact tdInt_eq ti_5; exact us_9; exact sB2.atn rfl; rfl; exact sB2.rd rfl))); all_goals (first | (apply ol_gskip; rfl; rfl; exact qA; rfl) | (apply ol_gval; rfl; rfl; rfl; exact qA; apply stp_pur; apply s_neqStr; rfl; rfl)); all_goals (apply ol_val; rfl; apply stp_pur; first | (apply s_pick_t; rfl; exact qA; rfl) | (apply s_pick_f; rfl; exact qA; rfl)); all_goals (apply ol_mv; rfl; rfl); all_goals (first | (apply ol_gskip; rfl; rfl; exact qA; rfl) | (apply ol_gval; rfl; rfl; rfl; exact qA; apply stp_pur; apply s_fieldAddr'; rfl; exact fd_25_3; exact qZ)); all_goals (first | (apply ol_gskip; rfl; rfl; exact qA; rfl) | (apply ol_gval; rfl; rfl; rfl; exact qA; apply stp_pur; apply s_load1; rfl; rfl; exact qP)); all_goals (first | (apply ol_gskip; rfl; rfl; exact qA; rfl) | (apply ol_gval; rfl; rfl; rfl; exact qA; apply stp_pur; apply s_len; rfl; exact el_23)); all_goals (first | (apply ol_gskip; rfl; rfl; exact qA; rfl) | (apply ol_gval; rfl; rfl; rfl; exact qA; apply stp_pur; apply s_fieldAddr'; rfl; exact fd_25_3; exact qZ)); all_goals (first | (apply ol_gskip; rfl; rfl; exact qA; rfl) | (apply ol_gval; rfl; rfl; rfl; exact qA; apply stp_pur; apply s_load1; rfl; rfl; exact qP)); all_goals (first | (apply ol_gskip; rfl; rfl; exact qA; rfl) | (apply ol_gval; rfl; rfl; rfl; exact qA; apply stp_pur; apply s_len; rfl; exact el_23)); all_goals (first | (apply ol_gskip; rfl; rfl; exact qA; rfl) | (apply ol_gval; rfl; rfl; rfl; exact qA; apply stp_cmp; apply s_neq; rfl; rfl; all_goals (intro hc34; try (exfalso; (first | exact hc34 rfl | omega))))); all_goals (apply ol_val; rfl; apply stp_pur; first | (apply s_pick_t; rfl; exact qA; rfl) | (apply s_pick_f; rfl; exact qA; rfl)); all_goals (apply ol_nil))
      | (refine cw_region_id 2 ?_; (apply ol_as; rfl; rfl); (apply ol_nil))
      | (apply cw_cond_true; rfl; exact qA)
      | (apply cw_cond_false; rfl; exact qA)
      | apply cw_skip
      | apply cw_ret
      | apply cw_block
      | apply cw_exit
    all_goals (refine ends [] (RVal.tmp rfl RVal.nil) Pick.nil ?_; rfl)
theorem rsame_spec : ∀ (d : Nat) {M : View} {w : World}, View.le M (View.of w) → ∀ {x y : It d}, ItV M d x → ItV M d y → fullI d x → fullI d y →
    FnC Tryd.prog 19 [.agg x.enc.toArray, .agg y.enc.toArray] w (fun v _ => v = .bool (sameI d x y)) := by
  intro d
  induction d with
  | zero =>
    intro M w hM x y hx hy fx fy
    cases h : sameH x.hd y.hd with
    | false =>
      rw [sameI_head h]
      exact rsame_no hM hx.head hy.head h
    | true =>
      have e : sameI 0 x y = true := h
      rw [e]
      clear e
      have fx : x.hd.m = 0 := fx
      have fy : y.hd.m = 0 := fy
      have hx := hx.head
      have hy := hy.head
      unfold It.enc
      generalize x.hd = a at *
      generalize y.hd = b at *
      obtain ⟨k, n, ⟨xs, Ba, Bb, Bo, Bc⟩, La, Lb, Lo, Lc, m⟩ := a
      obtain ⟨k2, n2, ⟨ys, Ba2, Bb2, Bo2, Bc2⟩, La2, Lb2, Lo2, Lc2, m2⟩ := b
      obtain ⟨rfl, rfl, rfl, rfl⟩ : k = k2 ∧ n = n2 ∧ xs = ys ∧ m = m2 := sameH_iff.1 h
      obtain ⟨sB, hb, _, _⟩ := hx
      obtain ⟨sB2, hb2, _, _⟩ := hy
      dsimp only at sB sB2 hb hb2 fx fy ⊢
      have hbe := strOf_beq hb hb
      rw [decide_eq_true rfl] at hbe
      have hbn : (!((strOf xs).toList == (strOf xs).toList)) = false := by rw [hbe]; rfl
      refine enterF (M := M) Tryd.func19 rfl rfl rfl rfl hM ?_
      repeat' first
        | apply cw_seq
        | (refine cw_region_id 0 ?_; (apply ol_val; rfl; first | (apply s_boxN; rfl; intro bk2) | (apply s_box1; rfl; rfl; intro bk2)); (apply ol_val; rfl; first | (apply s_boxN; rfl; intro bk3) | (apply s_box1; rfl; rfl; intro bk3)); (apply ol_as; rfl; rfl); (apply ol_nil))
        | (refine cw_region_id 1 ?_; (apply ol_fa; rfl; rfl; exact fd_25_0; exact qZ); (apply ol_ld; rfl; rfl; rfl; exact qP); (apply ol_fa; rfl; rfl; exact fd_25_0; exact qZ); (apply ol_ld; rfl; rfl; rfl; exact qP); (apply ol_val; rfl; apply stp_cmp; apply s_neq; rfl; rfl; all_goals (intro hc10; try (exfalso; (first | exact hc10 rfl | omega)))); all_goals (apply ol_mv; rfl; rfl); all_goals (first | (apply ol_gskip; rfl; rfl; exact qA; rfl) | (apply ol_gval; rfl; rfl; rfl; exact qA; apply stp_pur; apply s_fieldAddr'; rfl; exact fd_25_1; exact qZ)); all_goals (first | (apply ol_gskip; rfl; rfl; exact qA; rfl) | (apply ol_gval; rfl; rfl; rfl; exact qA; apply stp_pur; apply s_load1; rfl; rfl; exact qP)); all_goals (first | (apply ol_gskip; rfl; rfl; exact qA; rfl) | (apply ol_gval; rfl; rfl; rfl; exact qA; apply stp_pur; apply s_fieldAddr'; rfl; exact fd_25_1; exact qZ)); all_goals (first | (apply ol_gskip; rfl; rfl; exact qA; rfl) | (apply ol_gval; rfl; rfl; rfl; exact qA; apply stp_pur; apply s_load1; rfl; rfl; exact qP)); all_goals (first | (apply ol_gskip; rfl; rfl; exact qA; rfl) | (apply ol_gval; rfl; rfl; rfl; exact qA; apply stp_cmp; apply s_neq; rfl; rfl; all_goals (intro hc16; try (exfalso; (first | exact hc16 rfl | omega))))); all_goals (apply ol_val; rfl; apply stp_pur; first | (apply s_pick_t; rfl; exact qA; rfl) | (apply s_pick_f; rfl; exact qA; rfl)); all_goals (apply ol_mv; rfl; rfl); all_goals (first | (apply ol_gskip; rfl; rfl; exact qA; rfl) | (apply ol_gval; rfl; rfl; rfl; exact qA; apply stp_pur; apply s_fieldAddr'; rfl; exact fd_25_2; exact qZ)); all_goals (first | (apply ol_gskip; rfl; rfl; exact qA; rfl) | (apply ol_gval; rfl; rfl; rfl; exact qA; apply stp_pur; apply s_load1; rfl; rfl; exact qP)); all_goals (first | (apply ol_gskip; rfl; rfl; exact qA; rfl) | (apply ol_gval; rfl; rfl; rfl; exact qA; apply stp_pur; first | (apply s_convBS; rfl; exact el_22; exact tdInt_eq ti_5; exact us_9; exact sB.atn rfl; rfl; exact sB.rd rfl) | (apply s_convBS; rfl; exact el_22; exact tdInt_eq ti_5; exact us_9; exact sB2.atn rfl; rfl; exact sB2.rd rfl))); all_goals (first | (apply ol_gskip; rfl; rfl; exact qA; rfl) | (apply ol_gval; rfl; rfl; rfl; exact qA; apply stp_pur; apply s_fieldAddr'; rfl; exact fd_25_2; exact qZ)); all_goals (first | (apply ol_gskip; rfl; rfl; exact qA; rfl) | (apply ol_gval; rfl; rfl; rfl; exact qA; apply stp_pur; apply s_load1; rfl; rfl; exact qP)); all_goals (first | (apply ol_gskip; rfl; rfl; exact qA; rfl) | (apply ol_gval; rfl; rfl; rfl; exact qA; apply stp_pur; first | (apply s_convBS; rfl; exact el_22; exact tdInt_eq ti_5; exact us_9; exact sB.atn rfl; rfl; exact sB.rd rfl) | (apply s_convBS; rfl; exact el_22; exact tdInt_eq ti_5; exact us_9; exact sB2.atn rfl; rfl; exact sB2.rd rfl))); all_goals (first | (apply ol_gskip; rfl; rfl; exact qA; rfl) | (apply ol_gval; rfl; rfl; rfl; exact qA; apply stp_pur; apply s_neqStr; rfl; rfl)); all_goals (apply ol_val; rfl; apply stp_pur; first | (apply s_pick_t; rfl; exact qA; rfl) | (apply s_pick_f; rfl; exact qA; rfl)); all_goals (apply ol_mv; rfl; rfl); all_goals (first | (apply ol_gskip; rfl; rfl; exact qA; rfl) | (apply ol_gval; rfl; rfl; rfl; exact qA; apply stp_pur; apply s_fieldAddr'; rfl; exact fd_25_3; exact qZ)); all_goals (first | (apply ol_gskip; rfl; rfl; exact qA; rfl) | (apply ol_gval; rfl; rfl; rfl; exact qA; apply stp_pur; apply s_load1; rfl; rfl; exact qP)); all_goals (first | (apply ol_gskip; rfl; rfl; exact qA; rfl) | (apply ol_gval; rfl; rfl; rfl; exact qA; apply stp_pur; apply s_len; rfl; exact el_23)); all_goals (first | (apply ol_gskip; rfl; rfl; exact qA; rfl) | (apply ol_gval; rfl; rfl; rfl; exact qA; apply stp_pur; apply s_fieldAddr'; rfl; exact fd_25_3; exact qZ)); all_goals (first | (apply ol_gskip; rfl; rfl; exact qA; rfl) | (apply ol_gval; rfl; rfl; rfl; exact qA; apply stp_pur; apply s_load1; rfl; rfl; exact qP)); all_goals (first | (apply ol_gskip; rfl; rfl; exact qA; rfl) | (apply ol_gval; rfl; rfl; rfl; exact qA; apply stp_pur; apply s_len; rfl; exact el_23)); all_goals (first | (apply ol_gskip; rfl; rfl; exact qA; rfl) | (apply ol_gval; rfl; rfl; rfl; exact qA; apply stp_cmp; apply s_neq; rfl; rfl; all_goals (intro hc34; try (exfalso; (first | exact hc34 rfl | omega))))); all_goals (apply ol_val; rfl; apply stp_pur; first | (apply s_pick_t; rfl; exact qA; rfl) | (apply s_pick_f; rfl; exact qA; rfl)); all_goals (apply ol_nil))
        | (refine cw_region_id 3 ?_; (apply ol_as; rfl; rfl); (apply ol_nil))
        | (apply cw_cond_true; rfl; exact qA)
        | (apply cw_cond_false; rfl; exact qA)
        | apply cw_skip
        | apply cw_ret
        | apply cw_block
        | apply cw_exit
      refine cw_loopK (σ := Nat) [2, 3] (by (repeat (first | exact Keep.nil | (apply Keep.cons; rfl)))) (fun i => [(5, .int .i64 i)]) (fun _ => M) (fun _ => [⟨some bk2, [.int .i64 k, .int .i64 n, .slice Ba xs.length Bc, .slice La m Lc], 25⟩]) (fun i => i = 0) (fun i => 1 - i) 0 (by (repeat (first | exact trivial | refine And.intro rfl ?_))) (View.le.refl _) (by exact qK) rfl ?_
      rintro i rfl
      repeat' first
        | apply cw_seq
        | (refine cw_region_id 4 ?_; (apply ol_mv; rfl; rfl); (apply ol_fa; rfl; rfl; exact fd_25_3; exact qZ); (apply ol_ld; rfl; rfl; rfl; exact qP); (apply ol_val; rfl; apply stp_pur; apply s_len; rfl; exact el_23); (apply ol_val; rfl; apply stp_cmp; apply s_lss; rfl; rfl; all_goals (intro hc40; try (exfalso; (first | exact hc40 rfl | omega)))); all_goals (apply ol_nil))
        | (refine cw_region_id 8 ?_; (apply ol_as; rfl; rfl); (apply ol_nil))
        | (apply cw_cond_true; rfl; exact qA)
        | (apply cw_cond_false; rfl; exact qA)
        | apply cw_skip
        | apply cw_ret
        | apply cw_block
        | apply cw_exit
      all_goals (refine ends [] (RVal.tmp rfl RVal.nil) Pick.nil ?_; rfl)
  | succ d ih =>
    intro M w hM x y hx hy fx fy
    cases h : sameH x.hd y.hd with
    | false =>
      rw [sameI_head h]
      exact rsame_no hM hx.head hy.head h
    | true =>
      obtain ⟨a, L⟩ := x
      obtain ⟨b, L'⟩ := y
      have e : sameI (d + 1) (a, L) (b, L') = (L.zip L').all fun p => sameI d p.1 p.2 := by
        show (sameH a b && (L.zip L').all fun p => sameI d p.1 p.2) = _
        rw [show sameH a b = true from h, Bool.true_and]
      rw [e]
      clear e
      obtain ⟨⟨sB, hb, _, hmb⟩, hl, sL, hLi⟩ := hx
      obtain ⟨⟨sB2, hb2, _, _⟩, hl', sL', hLi'⟩ := hy
      unfold It.enc
      have fx : ∀ z ∈ L, fullI d z := fx
      have fy : ∀ z ∈ L', fullI d z := fy
      simp only [It.hd] at h hl hl' sL sL' sB sB2 hb hb2 hLi hLi' hmb ⊢
      obtain ⟨k, n, ⟨xs, Ba, Bb, Bo, Bc⟩, La, Lb, Lo, Lc, m⟩ := a
      obtain ⟨k2, n2, ⟨ys, Ba2, Bb2, Bo2, Bc2⟩, La2, Lb2, Lo2, Lc2, m2⟩ := b
      obtain ⟨rfl, rfl, rfl, rfl⟩ : k = k2 ∧ n = n2 ∧ xs = ys ∧ m = m2 := sameH_iff.1 h
      dsimp only at sB sB2 hb hb2 hl hl' sL sL' hmb ⊢
      have hbe := strOf_beq hb hb
      rw [decide_eq_true rfl] at hbe
      have hbn : (!((strOf xs).toList == (strOf xs).toList)) = false := by rw [hbe]; rfl
      refine enterF (M := M) Tryd.func19 rfl rfl rfl rfl hM ?_
      repeat' first
        | apply cw_seq
        | (refine cw_region_id 0 ?_; (apply ol_val; rfl; first | (apply s_boxN; rfl; intro bk2) | (apply s_box1; rfl; rfl; intro bk2)); (apply ol_val; rfl; first | (apply s_boxN; rfl; intro bk3) | (apply s_box1; rfl; rfl; intro bk3)); (apply ol_as; rfl; rfl); (apply ol_nil))
        | (refine cw_region_id 1 ?_; (apply ol_fa; rfl; rfl; exact fd_25_0; exact qZ); (apply ol_ld; rfl; rfl; rfl; exact qP); (apply ol_fa; rfl; rfl; exact fd_25_0; exact qZ); (apply ol_ld; rfl; rfl; rfl; exact qP); (apply ol_val; rfl; apply stp_cmp; apply s_neq; rfl; rfl; all_goals (intro hc10; try (exfalso; (first | exact hc10 rfl | omega)))); all_goals (apply ol_mv; rfl; rfl); all_goals (first | (apply ol_gskip; rfl; rfl; exact qA; rfl) | (apply ol_gval; rfl; rfl; rfl; exact qA; apply stp_pur; apply s_fieldAddr'; rfl; exact fd_25_1; exact qZ)); all_goals (first | (apply ol_gskip; rfl; rfl; exact qA; rfl) | (apply ol_gval; rfl; rfl; rfl; exact qA; apply stp_pur; apply s_load1; rfl; rfl; exact qP)); all_goals (first | (apply ol_gskip; rfl; rfl; exact qA; rfl) | (apply ol_gval; rfl; rfl; rfl; exact qA; apply stp_pur; apply s_fieldAddr'; rfl; exact fd_25_1; exact qZ)); all_goals (first | (apply ol_gskip; rfl; rfl; exact qA; rfl) | (apply ol_gval; rfl; rfl; rfl; exact qA; apply stp_pur; apply s_load1; rfl; rfl; exact qP)); all_goals (first | (apply ol_gskip; rfl; rfl; exact qA; rfl) | (apply ol_gval; rfl; rfl; rfl; exact qA; apply stp_cmp; apply s_neq; rfl; rfl; all_goals (intro hc16; try (exfalso; (first | exact hc16 rfl | omega))))); all_goals (apply ol_val; rfl; apply stp_pur; first | (apply s_pick_t; rfl; exact qA; rfl) | (apply s_pick_f; rfl; exact qA; rfl)); all_goals (apply ol_mv; rfl; rfl); all_goals (first | (apply ol_gskip; rfl; rfl; exact qA; rfl) | (apply ol_gval; rfl; rfl; rfl; exact qA; apply stp_pur; apply s_fieldAddr'; rfl; exact fd_25_2; exact qZ)); all_goals (first | (apply ol_gskip; rfl; rfl; exact qA; rfl) | (apply ol_gval; rfl; rfl; rfl; exact qA; apply stp_pur; apply s_load1; rfl; rfl; exact qP)); all_goals (first | (apply ol_gskip; rfl; rfl; exact qA; rfl) | (apply ol_gval; rfl; rfl; rfl; exact qA; apply stp_pur; first | (apply s_convBS; rfl; exact el_22; exact tdInt_eq ti_5; exact us_9; exact sB.atn rfl; rfl; exact sB.rd rfl) | (apply s_convBS; rfl; exact el_22; exact tdInt_eq ti_5; exact us_9; exact sB2.atn rfl; rfl; exact sB2.rd rfl))); all_goals (first | (apply ol_gskip; rfl; rfl; exact qA; rfl) | (apply ol_gval; rfl; rfl; rfl; exact qA; apply stp_pur; apply s_fieldAddr'; rfl; exact fd_25_2; exact qZ)); all_goals (first | (apply ol_gskip; rfl; rfl; exact qA; rfl) | (apply ol_gval; rfl; rfl; rfl; exact qA; apply stp_pur; apply s_load1; rfl; rfl; exact qP)); all_goals (first | (apply ol_gskip; rfl; rfl; exact qA; rfl) | (apply ol_gval; rfl; rfl; rfl; exact qA; apply stp_pur; first | (apply s_convBS; rfl; exact el_22; exact tdInt_eq ti_5; exact us_9; exact sB.atn rfl; rfl; exact sB.rd rfl) | (apply s_convBS; rfl; exact el_22; exact tdInt_eq ti_5; exact us_9; exact sB2.atn rfl; rfl; exact sB2.rd rfl))); all_goals (first | (apply ol_gskip; rfl; rfl; exact qA; rfl) | (apply ol_gval; rfl; rfl; rfl; exact qA; apply stp_pur; apply s_neqStr; rfl; rfl)); all_goals (apply ol_val; rfl; apply stp_pur; first | (apply s_pick_t; rfl; exact qA; rfl) | (apply s_pick_f; rfl; exact qA; rfl)); all_goals (apply ol_mv; rfl; rfl); all_goals (first | (apply ol_gskip; rfl; rfl; exact qA; rfl) | (apply ol_gval; rfl; rfl; rfl; exact qA; apply stp_pur; apply s_fieldAddr'; rfl; exact fd_25_3; exact qZ)); all_goals (first | (apply ol_gskip; rfl; rfl; exact qA; rfl) | (apply ol_gval; rfl; rfl; rfl; exact qA; apply stp_pur; apply s_load1; rfl; rfl; exact qP)); all_goals (first | (apply ol_gskip; rfl; rfl; exact qA; rfl) | (apply ol_gval; rfl; rfl; rfl; exact qA; apply stp_pur; apply s_len; rfl; exact el_23)); all_goals (first | (apply ol_gskip; rfl; rfl; exact qA; rfl) | (apply ol_gval; rfl; rfl; rfl; exact qA; apply stp_pur; apply s_fieldAddr'; rfl; exact fd_25_3; exact qZ)); all_goals (first | (apply ol_gskip; rfl; rfl; exact qA; rfl) | (apply ol_gval; rfl; rfl; rfl; exact qA; apply stp_pur; apply s_load1; rfl; rfl; exact qP)); all_goals (first | (apply ol_gskip; rfl; rfl; exact qA; rfl) | (apply ol_gval; rfl; rfl; rfl; exact qA; apply stp_pur; apply s_len; rfl; exact el_23)); all_goals (first | (apply ol_gskip; rfl; rfl; exact qA; rfl) | (apply ol_gval; rfl; rfl; rfl; exact qA; apply stp_cmp; apply s_neq; rfl; rfl; all_goals (intro hc34; try (exfalso; (first | exact hc34 rfl | omega))))); all_goals (apply ol_val; rfl; apply stp_pur; first | (apply s_pick_t; rfl; exact qA; rfl) | (apply s_pick_f; rfl; exact qA; rfl)); all_goals (apply ol_nil))
        | (refine cw_region_id 3 ?_; (apply ol_as; rfl; rfl); (apply ol_nil))
        | (apply cw_cond_true; rfl; exact qA)
        | (apply cw_cond_false; rfl; exact qA)
        | apply cw_skip
        | apply cw_ret
        | apply cw_block
        | apply cw_exit
      refine cw_loopK (σ := Nat) [2, 3] (by (repeat (first | exact Keep.nil | (apply Keep.cons; rfl)))) (fun i => [(5, .int .i64 i)]) (fun _ => M) (fun _ => [⟨some bk2, [.int .i64 k, .int .i64 n, .slice Ba xs.length Bc, .slice La m Lc], 25⟩, ⟨some bk3, [.int .i64 k, .int .i64 n, .slice Ba2 xs.length Bc2, .slice La2 m Lc2], 25⟩]) (fun i => i ≤ m ∧ ((L.zip L').take i).all (fun p => sameI d p.1 p.2) = true) (fun i => m - i) 0 (by (repeat (first | exact trivial | refine And.intro rfl ?_))) (View.le.refl _) (by exact qK) ⟨Nat.zero_le _, rfl⟩ ?_
      rintro i ⟨hi, hall⟩
      have hzl : (L.zip L').length = m := by rw [List.length_zip]; omega
      by_cases him : i < m
      · have h1 : i < L.length := by omega
        have h2 : i < L'.length := by omega
        have h3 : i < (L.zip L').length := by omega
        have hz : (L.zip L')[i] = (L[i], L'[i]) := List.getElem_zip
        have c1 := sL.cells i h1
        have c2 := sL'.cells i h2
        have kS := fun (w' : World) (h : View.le M (View.of w')) => ih h (hLi L[i] (List.getElem_mem h1)) (hLi' L'[i] (List.getElem_mem h2)) (fx L[i] (List.getElem_mem h1)) (fy L'[i] (List.getElem_mem h2))
        have htk : ((L.zip L').take (i + 1)).all (fun p => sameI d p.1 p.2) = sameI d L[i] L'[i] := by rw [List.take_succ_eq_append_getElem h3, List.all_append, hall, hz]; simp
        have hbad : sameI d L[i] L'[i] = false → ((L.zip L').all fun p => sameI d p.1 p.2) = false := fun h => by
          rw [List.all_eq_false]
          exact ⟨_, List.getElem_mem h3, by rw [hz, h]; simp⟩
        clear hz hLi hLi'
        generalize L[i] = z at *
        generalize L'[i] = z' at *
        cases hq : sameI d z z' with
        | true =>
          rw [hq] at kS htk
          repeat' first
            | apply cw_seq
            | (refine cw_region_id 4 ?_; (apply ol_mv; rfl; rfl); (apply ol_fa; rfl; rfl; exact fd_25_3; exact qZ); (apply ol_ld; rfl; rfl; rfl; (first | exact qP | (apply RdN.view; first | exact c1 | exact c2))); (apply ol_val; rfl; apply stp_pur; apply s_len; rfl; exact el_23); (apply ol_val; rfl; apply stp_cmp; apply s_lss; rfl; rfl; all_goals (intro hc40; try (exfalso; (first | exact hc40 rfl | omega)))); all_goals (apply ol_nil))
            | (refine cw_isreg 6 ?_; refine cw_draw (id := 6) 12 (.mv 0 (.mv 1 (.mv 2 (.mv 3 (.mv 4 (.mv 5 (.mv 6 (.mv 7 (.mv 8 (.mv 9 (.fx 10 (.mv 11 (PT.nil))))))))))))) mixed (by kernel_rfl) ?_; (apply od_mv; rfl; rfl; apply s_fieldAddr'; rfl; exact fd_25_3; exact qZ); (apply od_mv; rfl; rfl; apply s_load1; rfl; rfl; (first | exact qP | (apply RdN.view; first | exact c1 | exact c2))); (apply od_mv; rfl; rfl; apply s_move; rfl); (apply od_mv; rfl; rfl; first | (apply s_indexK; rfl; rfl; exact el_23; exact sz_25; (first | rfl | (first | exact sL.at_ (by omega) | exact sL'.at_ (by omega))); omega) | (apply s_indexO; rfl; rfl; exact el_23; exact sz_25; (first | rfl | (first | exact sL.at_ (by omega) | exact sL'.at_ (by omega))); omega)); (apply od_mv; rfl; rfl; apply s_loadN; rfl; rfl; exact sz_25; (first | exact qQ | (apply RdN.view; first | exact c1 | exact c2))); (apply od_mv; rfl; rfl; apply s_fieldAddr'; rfl; exact fd_25_3; exact qZ); (apply od_mv; rfl; rfl; apply s_load1; rfl; rfl; (first | exact qP | (apply RdN.view; first | exact c1 | exact c2))); (apply od_mv; rfl; rfl; apply s_move; rfl); (apply od_mv; rfl; rfl; first | (apply s_indexK; rfl; rfl; exact el_23; exact sz_25; (first | rfl | (first | exact sL.at_ (by omega) | exact sL'.at_ (by omega))); omega) | (apply s_indexO; rfl; rfl; exact el_23; exact sz_25; (first | rfl | (first | exact sL.at_ (by omega) | exact sL'.at_ (by omega))); omega)); (apply od_mv; rfl; rfl; apply s_loadN; rfl; rfl; exact sz_25; (first | exact qQ | (apply RdN.view; first | exact c1 | exact c2))); (apply od_fx; (first | exact Wk.refl _ _ | exact qW); (apply fx_val; rfl; rfl; apply s_callv; rfl; exact gf_19; (intro w' hw'; exact kS w' hw'.le))); (apply od_mv; rfl; rfl; first | (apply s_not_t; rfl; exact qA) | (apply s_not_f; rfl; exact qA) | (apply s_not; rfl)); (apply od_nil; (first | exact Wk.refl _ _ | exact qW)); (apply ol_nil))
            | (refine cw_region_id 5 ?_; (apply ol_mv; rfl; rfl); (apply ol_val; rfl; apply stp_pur; apply s_add64; rfl; rfl; omega); (apply ol_as; rfl; rfl); (apply ol_nil))
            | (apply cw_cond_true; rfl; exact qA)
            | (apply cw_cond_false; rfl; exact qA)
            | apply cw_skip
            | apply cw_ret
            | apply cw_block
            | apply cw_exit
          all_goals (exact ⟨i + 1, ⟨by (repeat (first | exact trivial | refine And.intro rfl ?_)), View.le.refl _, by exact qK, ⟨him, htk⟩, by omega⟩⟩)
        | false =>
          rw [hq] at kS
          rw [hbad hq]
          repeat' first
            | apply cw_seq
            | (refine cw_region_id 4 ?_; (apply ol_mv; rfl; rfl); (apply ol_fa; rfl; rfl; exact fd_25_3; exact qZ); (apply ol_ld; rfl; rfl; rfl; (first | exact qP | (apply RdN.view; first | exact c1 | exact c2))); (apply ol_val; rfl; apply stp_pur; apply s_len; rfl; exact el_23); (apply ol_val; rfl; apply stp_cmp; apply s_lss; rfl; rfl; all_goals (intro hc40; try (exfalso; (first | exact hc40 rfl | omega)))); all_goals (apply ol_nil))
            | (refine cw_isreg 6 ?_; refine cw_draw (id := 6) 12 (.mv 0 (.mv 1 (.mv 2 (.mv 3 (.mv 4 (.mv 5 (.mv 6 (.mv 7 (.mv 8 (.mv 9 (.fx 10 (.mv 11 (PT.nil))))))))))))) mixed (by kernel_rfl) ?_; (apply od_mv; rfl; rfl; apply s_fieldAddr'; rfl; exact fd_25_3; exact qZ); (apply od_mv; rfl; rfl; apply s_load1; rfl; rfl; (first | exact qP | (apply RdN.view; first | exact c1 | exact c2))); (apply od_mv; rfl; rfl; apply s_move; rfl); (apply od_mv; rfl; rfl; first | (apply s_indexK; rfl; rfl; exact el_23; exact sz_25; (first | rfl | (first | exact sL.at_ (by omega) | exact sL'.at_ (by omega))); omega) | (apply s_indexO; rfl; rfl; exact el_23; exact sz_25; (first | rfl | (first | exact sL.at_ (by omega) | exact sL'.at_ (by omega))); omega)); (apply od_mv; rfl; rfl; apply s_loadN; rfl; rfl; exact sz_25; (first | exact qQ | (apply RdN.view; first | exact c1 | exact c2))); (apply od_mv; rfl; rfl; apply s_fieldAddr'; rfl; exact fd_25_3; exact qZ); (apply od_mv; rfl; rfl; apply s_load1; rfl; rfl; (first | exact qP | (apply RdN.view; first | exact c1 | exact c2))); (apply od_mv; rfl; rfl; apply s_move; rfl); (apply od_mv; rfl; rfl; first | (apply s_indexK; rfl; rfl; exact el_23; exact sz_25; (first | rfl | (first | exact sL.at_ (by omega) | exact sL'.at_ (by omega))); omega) | (apply s_indexO; rfl; rfl; exact el_23; exact sz_25; (first | rfl | (first | exact sL.at_ (by omega) | exact sL'.at_ (by omega))); omega)); (apply od_mv; rfl; rfl; apply s_loadN; rfl; rfl; exact sz_25; (first | exact qQ | (apply RdN.view; first | exact c1 | exact c2))); (apply od_fx; (first | exact Wk.refl _ _ | exact qW); (apply fx_val; rfl; rfl; apply s_callv; rfl; exact gf_19; (intro w' hw'; exact kS w' hw'.le))); (apply od_mv; rfl; rfl; first | (apply s_not_t; rfl; exact qA) | (apply s_not_f; rfl; exact qA) | (apply s_not; rfl)); (apply od_nil; (first | exact Wk.refl _ _ | exact qW)); (apply ol_nil))
            | (refine cw_region_id 7 ?_; (apply ol_as; rfl; rfl); (apply ol_nil))
            | (apply cw_cond_true; rfl; exact qA)
            | (apply cw_cond_false; rfl; exact qA)
            | apply cw_skip
            | apply cw_ret
            | apply cw_block
            | apply cw_exit
          all_goals (refine ends [] (RVal.tmp rfl RVal.nil) Pick.nil ?_; rfl)
      · rw [List.take_of_length_le (by omega)] at hall
        rw [hall]
        repeat' first
          | apply cw_seq
          | (refine cw_region_id 4 ?_; (apply ol_mv; rfl; rfl); (apply ol_fa; rfl; rfl; exact fd_25_3; exact qZ); (apply ol_ld; rfl; rfl; rfl; exact qP); (apply ol_val; rfl; apply stp_pur; apply s_len; rfl; exact el_23); (apply ol_val; rfl; apply stp_cmp; apply s_lss; rfl; rfl; all_goals (intro hc40; try (exfalso; (first | exact hc40 rfl | omega)))); all_goals (apply ol_nil))
          | (refine cw_region_id 8 ?_; (apply ol_as; rfl; rfl); (apply ol_nil))
          | (apply cw_cond_true; rfl; exact qA)
          | (apply cw_cond_false; rfl; exact qA)
          | apply cw_skip
          | apply cw_ret
          | apply cw_block
          | apply cw_exit
        all_goals (refine ends [] (RVal.tmp rfl RVal.nil) Pick.nil ?_; rfl)
end Go.Proofs.YtkkfgeekdaalmaaDoor
namespace Go.Proofs.YtkkfgeekdaalmaaDoor
set_option maxRecDepth 20000
set_option linter.unusedSimpArgs false
set_option linter.unusedVariables false
open Go Go.Fw
attribute [local irreducible] CW OL OD FX Stp FnC FnV FnA FnM Ret bI encI okI numB rdE rdN strOf
set_option maxHeartbeats 3200000
theorem eqF_spec {M : View} {w : World} (hM : View.le M (View.of w)) {d : Nat} {L L' : List (It d)} {n n' : Nat} (hn : L.length = n) (hn' : L'.length = n') (hb : n ≤ 140737488355328) {a a' : Option Addr} {b o c b' o' c' : Nat} (s : SlA M It.enc 4 a L b o) (s' : SlA M It.enc 4 a' L' b' o')
    (ih : ∀ (w' : World) (x y : It d), x ∈ L → y ∈ L' → View.le M (View.of w') → FnC Tryd.prog 43 [.agg x.enc.toArray, .agg y.enc.toArray] w' (fun v _ => v = .bool (sameI d x y))) :
    FnC Tryd.prog 51 [.slice a n c, .slice a' n' c', .func (.func 43) #[] #[]] w (fun v _ => v = .bool (decide (n = n') && (L.zip L').all fun p => sameI d p.1 p.2)) := by
  refine enterF (M := M) Tryd.func51 rfl rfl rfl rfl hM ?_
  by_cases hnn : n = n'
  · subst hnn
    rw [decide_eq_true rfl, Bool.true_and]
    repeat' first
      | apply cw_seq
      | (refine cw_region_id 0 ?_; (apply ol_as; rfl; rfl); (apply ol_nil))
      | (refine cw_region_id 1 ?_; (apply ol_mv; rfl; rfl); (apply ol_val; rfl; apply stp_pur; apply s_len; rfl; exact el_23); (apply ol_mv; rfl; rfl); (apply ol_val; rfl; apply stp_pur; apply s_len; rfl; exact el_23); (apply ol_val; rfl; apply stp_cmp; apply s_neq; rfl; rfl; all_goals (intro hc14; try (exfalso; (first | exact hc14 rfl | omega)))); all_goals (apply ol_nil))
      | (refine cw_region_id 3 ?_; (apply ol_mv; rfl; rfl); (apply ol_val; rfl; apply stp_pur; apply s_len; rfl; exact el_23); (apply ol_mv; rfl; rfl); (apply ol_nil))
      | (apply cw_cond_true; rfl; exact qA)
      | (apply cw_cond_false; rfl; exact qA)
      | apply cw_skip
      | apply cw_ret
      | apply cw_block
      | apply cw_exit
    refine cw_loopK (σ := Nat) [1, 2, 15, 16] (by (repeat (first | exact Keep.nil | (apply Keep.cons; rfl)))) (fun i => [(17, .int .i64 i)]) (fun _ => M) (fun _ => []) (fun i => i ≤ n ∧ ((L.zip L').take i).all (fun p => sameI d p.1 p.2) = true) (fun i => n - i) 0 (by (repeat (first | exact trivial | refine And.intro rfl ?_))) (View.le.refl _) (by exact qK) ⟨Nat.zero_le _, rfl⟩ ?_
    rintro i ⟨hi, hall⟩
    have hzl : (L.zip L').length = n := by rw [List.length_zip]; omega
    by_cases him : i < n
    · have h1 : i < L.length := by omega
      have h2 : i < L'.length := by omega
      have h3 : i < (L.zip L').length := by omega
      have hz : (L.zip L')[i] = (L[i], L'[i]) := List.getElem_zip
      have c1 := s.cells i h1
      have c2 := s'.cells i h2
      have kS := fun (w' : World) (h : View.le M (View.of w')) => ih w' L[i] L'[i] (List.getElem_mem h1) (List.getElem_mem h2) h
      have htk : ((L.zip L').take (i + 1)).all (fun p => sameI d p.1 p.2) = sameI d L[i] L'[i] := by rw [List.take_succ_eq_append_getElem h3, List.all_append, hall, hz]; simp
      have hbad : sameI d L[i] L'[i] = false → ((L.zip L').all fun p => sameI d p.1 p.2) = false := fun h => by
        rw [List.all_eq_false]
        exact ⟨_, List.getElem_mem h3, by rw [hz, h]; simp⟩
      clear hz ih
      generalize L[i] = z at *
      generalize L'[i] = z' at *
      unfold It.enc at c1 c2 kS
      cases hq : sameI d z z' with
      | true =>
        rw [hq] at kS htk
        repeat' first
          | apply cw_seq
          | (refine cw_region_id 4 ?_; (apply ol_val; rfl; apply stp_cmp; apply s_lss; rfl; rfl; all_goals (intro hc18; try (exfalso; (first | exact hc18 rfl | omega)))); all_goals (apply ol_nil))
          | (refine cw_region_id 5 ?_; (apply ol_mv; rfl; rfl); (apply ol_val; rfl; apply stp_pur; first | (apply s_indexK; rfl; rfl; exact el_23; exact sz_25; (first | rfl | (first | exact s.at_ (by omega) | exact s'.at_ (by omega))); omega) | (apply s_indexO; rfl; rfl; exact el_23; exact sz_25; (first | rfl | (first | exact s.at_ (by omega) | exact s'.at_ (by omega))); omega)); (apply ol_ldN; rfl; rfl; rfl; exact sz_25; (first | exact qQ | (apply RdN.view; first | exact c1 | exact c2))); (apply ol_val; rfl; apply s_alloc; exact zb_25; exact qN; intro bk8); (apply ol_as; rfl; rfl); (apply ol_eff; apply s_storeN; rfl; rfl; exact sz_25; rfl; rfl; exact qN; exact qN); (apply ol_nil))
          | (refine cw_region_id 6 ?_; (apply ol_mv; rfl; rfl); (apply ol_mv; rfl; rfl); (apply ol_val; rfl; apply stp_pur; first | (apply s_indexK; rfl; rfl; exact el_23; exact sz_25; (first | rfl | (first | exact s.at_ (by omega) | exact s'.at_ (by omega))); omega) | (apply s_indexO; rfl; rfl; exact el_23; exact sz_25; (first | rfl | (first | exact s.at_ (by omega) | exact s'.at_ (by omega))); omega)); (apply ol_ldN; rfl; rfl; rfl; exact sz_25; (first | exact qQ | (apply RdN.view; first | exact c1 | exact c2))); (apply ol_val; rfl; apply s_alloc; exact zb_25; exact qN; intro bk9); (apply ol_eff; apply s_storeN; rfl; rfl; exact sz_25; rfl; rfl; exact qN; exact qN); (apply ol_nil))
          | (refine cw_region_id 7 ?_; (apply ol_mv; rfl; rfl); (apply ol_ldN; rfl; rfl; rfl; exact sz_25; (first | exact qQ | (apply RdN.view; first | exact c1 | exact c2))); (apply ol_ldN; rfl; rfl; rfl; exact sz_25; (first | exact qQ | (apply RdN.view; first | exact c1 | exact c2))); (apply ol_val; rfl; (apply s_clov (fs := []); rfl; rfl; (show goFunc Tryd.prog 43 = true; kernel_rfl); (intro w' hw'; exact kS w' hw'.le))); all_goals (apply ol_val; rfl; apply stp_pur; first | (apply s_not_t; rfl; exact qA) | (apply s_not_f; rfl; exact qA) | (apply s_not; rfl)); all_goals (apply ol_nil))
          | (refine cw_region_id 9 ?_; (apply ol_val; rfl; apply stp_pur; apply s_add64; rfl; rfl; omega); (apply ol_mv; rfl; rfl); (apply ol_nil))
          | (apply cw_cond_true; rfl; exact qA)
          | (apply cw_cond_false; rfl; exact qA)
          | apply cw_skip
          | apply cw_ret
          | apply cw_block
          | apply cw_exit
        all_goals (exact ⟨i + 1, ⟨by (repeat (first | exact trivial | refine And.intro rfl ?_)), View.le.refl _, by exact qK, ⟨him, htk⟩, by omega⟩⟩)
      | false =>
        rw [hq] at kS
        rw [hbad hq]
        repeat' first
          | apply cw_seq
          | (refine cw_region_id 4 ?_; (apply ol_val; rfl; apply stp_cmp; apply s_lss; rfl; rfl; all_goals (intro hc18; try (exfalso; (first | exact hc18 rfl | omega)))); all_goals (apply ol_nil))
          | (refine cw_region_id 5 ?_; (apply ol_mv; rfl; rfl); (apply ol_val; rfl; apply stp_pur; first | (apply s_indexK; rfl; rfl; exact el_23; exact sz_25; (first | rfl | (first | exact s.at_ (by omega) | exact s'.at_ (by omega))); omega) | (apply s_indexO; rfl; rfl; exact el_23; exact sz_25; (first | rfl | (first | exact s.at_ (by omega) | exact s'.at_ (by omega))); omega)); (apply ol_ldN; rfl; rfl; rfl; exact sz_25; (first | exact qQ | (apply RdN.view; first | exact c1 | exact c2))); (apply ol_val; rfl; apply s_alloc; exact zb_25; exact qN; intro bk8); (apply ol_as; rfl; rfl); (apply ol_eff; apply s_storeN; rfl; rfl; exact sz_25; rfl; rfl; exact qN; exact qN); (apply ol_nil))
          | (refine cw_region_id 6 ?_; (apply ol_mv; rfl; rfl); (apply ol_mv; rfl; rfl); (apply ol_val; rfl; apply stp_pur; first | (apply s_indexK; rfl; rfl; exact el_23; exact sz_25; (first | rfl | (first | exact s.at_ (by omega) | exact s'.at_ (by omega))); omega) | (apply s_indexO; rfl; rfl; exact el_23; exact sz_25; (first | rfl | (first | exact s.at_ (by omega) | exact s'.at_ (by omega))); omega)); (apply ol_ldN; rfl; rfl; rfl; exact sz_25; (first | exact qQ | (apply RdN.view; first | exact c1 | exact c2))); (apply ol_val; rfl; apply s_alloc; exact zb_25; exact qN; intro bk9); (apply ol_eff; apply s_storeN; rfl; rfl; exact sz_25; rfl; rfl; exact qN; exact qN); (apply ol_nil))
          | (refine cw_region_id 7 ?_; (apply ol_mv; rfl; rfl); (apply ol_ldN; rfl; rfl; rfl; exact sz_25; (first | exact qQ | (apply RdN.view; first | exact c1 | exact c2))); (apply ol_ldN; rfl; rfl; rfl; exact sz_25; (first | exact qQ | (apply RdN.view; first | exact c1 | exact c2))); (apply ol_val; rfl; (apply s_clov (fs := []); rfl; rfl; (show goFunc Tryd.prog 43 = true; kernel_rfl); (intro w' hw'; exact kS w' hw'.le))); all_goals (apply ol_val; rfl; apply stp_pur; first | (apply s_not_t; rfl; exact qA) | (apply s_not_f; rfl; exact qA) | (apply s_not; rfl)); all_goals (apply ol_nil))
          | (refine cw_region_id 8 ?_; (apply ol_as; rfl; rfl); (apply ol_nil))
          | (apply cw_cond_true; rfl; exact qA)
          | (apply cw_cond_false; rfl; exact qA)
          | apply cw_skip
          | apply cw_ret
          | apply cw_block
          | apply cw_exit
        all_goals (refine ends [] (RVal.tmp rfl RVal.nil) Pick.nil ?_; rfl)
    · rw [List.take_of_length_le (by omega)] at hall
      rw [hall]
      repeat' first
        | apply cw_seq
        | (refine cw_region_id 4 ?_; (apply ol_val; rfl; apply stp_cmp; apply s_lss; rfl; rfl; all_goals (intro hc18; try (exfalso; (first | exact hc18 rfl | omega)))); all_goals (apply ol_nil))
        | (refine cw_region_id 10 ?_; (apply ol_as; rfl; rfl); (apply ol_nil))
        | (apply cw_cond_true; rfl; exact qA)
        | (apply cw_cond_false; rfl; exact qA)
        | apply cw_skip
        | apply cw_ret
        | apply cw_block
        | apply cw_exit
      all_goals (refine ends [] (RVal.tmp rfl RVal.nil) Pick.nil ?_; rfl)
  · rw [decide_eq_false hnn, Bool.false_and]
    repeat' first
      | apply cw_seq
      | (refine cw_region_id 0 ?_; (apply ol_as; rfl; rfl); (apply ol_nil))
      | (refine cw_region_id 1 ?_; (apply ol_mv; rfl; rfl); (apply ol_val; rfl; apply stp_pur; apply s_len; rfl; exact el_23); (apply ol_mv; rfl; rfl); (apply ol_val; rfl; apply stp_pur; apply s_len; rfl; exact el_23); (apply ol_val; rfl; apply stp_cmp; apply s_neq; rfl; rfl; all_goals (intro hc14; try (exfalso; (first | exact hc14 rfl | omega)))); all_goals (apply ol_nil))
      | (refine cw_region_id 2 ?_; (apply ol_as; rfl; rfl); (apply ol_nil))
      | (apply cw_cond_true; rfl; exact qA)
      | (apply cw_cond_false; rfl; exact qA)
      | apply cw_skip
      | apply cw_ret
      | apply cw_block
      | apply cw_exit
    all_goals (refine ends [] (RVal.tmp rfl RVal.nil) Pick.nil ?_; rfl)
/-- One step: what EqualFunc says of the lists is known. -/
theorem same_step {M : View} {w : World} (hM : View.le M (View.of w)) {d : Nat} {x y : It d} (hx : HdV M x.hd) (hy : HdV M y.hd) {r : Bool} (hr : sameI d x y = (decide (x.hd.k = y.hd.k) && (decide (x.hd.n = y.hd.n) && (decide (x.hd.B.xs = y.hd.B.xs) && r))))
    (kf : ∀ (w' : World), View.le M (View.of w') → FnC Tryd.prog 51 [.slice x.hd.La x.hd.m x.hd.Lc, .slice y.hd.La y.hd.m y.hd.Lc, .func (.func 43) #[] #[]] w' (fun v _ => v = .bool r)) :
    FnC Tryd.prog 43 [.agg x.enc.toArray, .agg y.enc.toArray] w (fun v _ => v = .bool (sameI d x y)) := by
  rw [hr]
  clear hr
  unfold It.enc
  generalize x.hd = a at *
  generalize y.hd = b at *
  obtain ⟨k, n, ⟨xs, Ba, Bb, Bo, Bc⟩, La, Lb, Lo, Lc, m⟩ := a
  obtain ⟨k2, n2, ⟨ys, Ba2, Bb2, Bo2, Bc2⟩, La2, Lb2, Lo2, Lc2, m2⟩ := b
  obtain ⟨sB, hb, _, _⟩ := hx
  obtain ⟨sB2, hb2, _, _⟩ := hy
  dsimp only at sB sB2 hb hb2 kf ⊢
  have kb := fun (w' : World) (h : View.le M (View.of w')) => bequal_spec h rfl rfl hb hb2 (c := Bc) (c' := Bc2) sB sB2
  refine enterF (M := M) Tryd.func43 rfl rfl rfl rfl hM ?_
  by_cases h1 : k = k2
  · by_cases h2 : n = n2
    · subst h1 h2
      rw [decide_eq_true rfl, decide_eq_true rfl, Bool.true_and, Bool.true_and]
      cases h3 : decide (xs = ys) with
      | true =>
        rw [h3] at kb
        rw [Bool.true_and]
        repeat' first
          | apply cw_seq
          | (refine cw_region_id 0 ?_; (apply ol_val; rfl; first | (apply s_boxN; rfl; intro bk2) | (apply s_box1; rfl; rfl; intro bk2)); (apply ol_val; rfl; first | (apply s_boxN; rfl; intro bk3) | (apply s_box1; rfl; rfl; intro bk3)); (apply ol_as; rfl; rfl); (apply ol_nil))
          | (refine cw_region_id 1 ?_; (apply ol_fa; rfl; rfl; exact fd_25_0; exact qZ); (apply ol_ld; rfl; rfl; rfl; exact qP); (apply ol_fa; rfl; rfl; exact fd_25_0; exact qZ); (apply ol_ld; rfl; rfl; rfl; exact qP); (apply ol_val; rfl; apply stp_cmp; apply s_eql; rfl; rfl; all_goals (intro hc9; try (exfalso; (first | exact hc9 rfl | omega)))); all_goals (apply ol_mv; rfl; rfl); all_goals (first | (apply ol_gskip; rfl; rfl; exact qA; rfl) | (apply ol_gval; rfl; rfl; rfl; exact qA; apply stp_pur; apply s_fieldAddr'; rfl; exact fd_25_1; exact qZ)); all_goals (first | (apply ol_gskip; rfl; rfl; exact qA; rfl) | (apply ol_gval; rfl; rfl; rfl; exact qA; apply stp_pur; apply s_load1; rfl; rfl; exact qP)); all_goals (first | (apply ol_gskip; rfl; rfl; exact qA; rfl) | (apply ol_gval; rfl; rfl; rfl; exact qA; apply stp_pur; apply s_fieldAddr'; rfl; exact fd_25_1; exact qZ)); all_goals (first | (apply ol_gskip; rfl; rfl; exact qA; rfl) | (apply ol_gval; rfl; rfl; rfl; exact qA; apply stp_pur; apply s_load1; rfl; rfl; exact qP)); all_goals (first | (apply ol_gskip; rfl; rfl; exact qA; rfl) | (apply ol_gval; rfl; rfl; rfl; exact qA; apply stp_cmp; apply s_eql; rfl; rfl; all_goals (intro hc15; try (exfalso; (first | exact hc15 rfl | omega))))); all_goals (apply ol_val; rfl; apply stp_pur; first | (apply s_pick_t; rfl; exact qA; rfl) | (apply s_pick_f; rfl; exact qA; rfl)); all_goals (apply ol_mv; rfl; rfl); all_goals (first | (apply ol_gskip; rfl; rfl; exact qA; rfl) | (apply ol_gval; rfl; rfl; rfl; exact qA; apply stp_pur; apply s_fieldAddr'; rfl; exact fd_25_2; exact qZ)); all_goals (first | (apply ol_gskip; rfl; rfl; exact qA; rfl) | (apply ol_gval; rfl; rfl; rfl; exact qA; apply stp_pur; apply s_load1; rfl; rfl; exact qP)); all_goals (first | (apply ol_gskip; rfl; rfl; exact qA; rfl) | (apply ol_gval; rfl; rfl; rfl; exact qA; apply stp_pur; apply s_fieldAddr'; rfl; exact fd_25_2; exact qZ)); all_goals (first | (apply ol_gskip; rfl; rfl; exact qA; rfl) | (apply ol_gval; rfl; rfl; rfl; exact qA; apply stp_pur; apply s_load1; rfl; rfl; exact qP)); all_goals (first | (apply ol_gskip; rfl; rfl; exact qA; rfl) | (apply ol_gval; rfl; rfl; rfl; exact qA; apply s_callv; rfl; exact gf_16; (intro w' hw'; exact kb w' hw'.le))); all_goals (apply ol_val; rfl; apply stp_pur; first | (apply s_pick_t; rfl; exact qA; rfl) | (apply s_pick_f; rfl; exact qA; rfl)); all_goals (apply ol_mv; rfl; rfl); all_goals (first | (apply ol_gskip; rfl; rfl; exact qA; rfl) | (apply ol_gval; rfl; rfl; rfl; exact qA; apply stp_pur; apply s_fieldAddr'; rfl; exact fd_25_3; exact qZ)); all_goals (first | (apply ol_gskip; rfl; rfl; exact qA; rfl) | (apply ol_gval; rfl; rfl; rfl; exact qA; apply stp_pur; apply s_load1; rfl; rfl; exact qP)); all_goals (first | (apply ol_gskip; rfl; rfl; exact qA; rfl) | (apply ol_gval; rfl; rfl; rfl; exact qA; apply stp_pur; apply s_fieldAddr'; rfl; exact fd_25_3; exact qZ)); all_goals (first | (apply ol_gskip; rfl; rfl; exact qA; rfl) | (apply ol_gval; rfl; rfl; rfl; exact qA; apply stp_pur; apply s_load1; rfl; rfl; exact qP)); all_goals (first | (apply ol_gskip; rfl; rfl; exact qA; rfl) | (apply ol_gval; rfl; rfl; rfl; exact qA; apply s_callv; rfl; exact gf_51; (intro w' hw'; exact kf w' hw'.le))); all_goals (apply ol_val; rfl; apply stp_pur; first | (apply s_pick_t; rfl; exact qA; rfl) | (apply s_pick_f; rfl; exact qA; rfl)); all_goals (apply ol_as; rfl; rfl); all_goals (apply ol_nil))
          | (apply cw_cond_true; rfl; exact qA)
          | (apply cw_cond_false; rfl; exact qA)
          | apply cw_skip
          | apply cw_ret
          | apply cw_block
          | apply cw_exit
        all_goals (refine ends [] (RVal.tmp rfl RVal.nil) Pick.nil ?_; rfl)
      | false =>
        rw [h3] at kb
        rw [Bool.false_and]
        repeat' first
          | apply cw_seq
          | (refine cw_region_id 0 ?_; (apply ol_val; rfl; first | (apply s_boxN; rfl; intro bk2) | (apply s_box1; rfl; rfl; intro bk2)); (apply ol_val; rfl; first | (apply s_boxN; rfl; intro bk3) | (apply s_box1; rfl; rfl; intro bk3)); (apply ol_as; rfl; rfl); (apply ol_nil))
          | (refine cw_region_id 1 ?_; (apply ol_fa; rfl; rfl; exact fd_25_0; exact qZ); (apply ol_ld; rfl; rfl; rfl; exact qP); (apply ol_fa; rfl; rfl; exact fd_25_0; exact qZ); (apply ol_ld; rfl; rfl; rfl; exact qP); (apply ol_val; rfl; apply stp_cmp; apply s_eql; rfl; rfl; all_goals (intro hc9; try (exfalso; (first | exact hc9 rfl | omega)))); all_goals (apply ol_mv; rfl; rfl); all_goals (first | (apply ol_gskip; rfl; rfl; exact qA; rfl) | (apply ol_gval; rfl; rfl; rfl; exact qA; apply stp_pur; apply s_fieldAddr'; rfl; exact fd_25_1; exact qZ)); all_goals (first | (apply ol_gskip; rfl; rfl; exact qA; rfl) | (apply ol_gval; rfl; rfl; rfl; exact qA; apply stp_pur; apply s_load1; rfl; rfl; exact qP)); all_goals (first | (apply ol_gskip; rfl; rfl; exact qA; rfl) | (apply ol_gval; rfl; rfl; rfl; exact qA; apply stp_pur; apply s_fieldAddr'; rfl; exact fd_25_1; exact qZ)); all_goals (first | (apply ol_gskip; rfl; rfl; exact qA; rfl) | (apply ol_gval; rfl; rfl; rfl; exact qA; apply stp_pur; apply s_load1; rfl; rfl; exact qP)); all_goals (first | (apply ol_gskip; rfl; rfl; exact qA; rfl) | (apply ol_gval; rfl; rfl; rfl; exact qA; apply stp_cmp; apply s_eql; rfl; rfl; all_goals (intro hc15; try (exfalso; (first | exact hc15 rfl | omega))))); all_goals (apply ol_val; rfl; apply stp_pur; first | (apply s_pick_t; rfl; exact qA; rfl) | (apply s_pick_f; rfl; exact qA; rfl)); all_goals (apply ol_mv; rfl; rfl); all_goals (first | (apply ol_gskip; rfl; rfl; exact qA; rfl) | (apply ol_gval; rfl; rfl; rfl; exact qA; apply stp_pur; apply s_fieldAddr'; rfl; exact fd_25_2; exact qZ)); all_goals (first | (apply ol_gskip; rfl; rfl; exact qA; rfl) | (apply ol_gval; rfl; rfl; rfl; exact qA; apply stp_pur; apply s_load1; rfl; rfl; exact qP)); all_goals (first | (apply ol_gskip; rfl; rfl; exact qA; rfl) | (apply ol_gval; rfl; rfl; rfl; exact qA; apply stp_pur; apply s_fieldAddr'; rfl; exact fd_25_2; exact qZ)); all_goals (first | (apply ol_gskip; rfl; rfl; exact qA; rfl) | (apply ol_gval; rfl; rfl; rfl; exact qA; apply stp_pur; apply s_load1; rfl; rfl; exact qP)); all_goals (first | (apply ol_gskip; rfl; rfl; exact qA; rfl) | (apply ol_gval; rfl; rfl; rfl; exact qA; apply s_callv; rfl; exact gf_16; (intro w' hw'; exact kb w' hw'.le))); all_goals (apply ol_val; rfl; apply stp_pur; first | (apply s_pick_t; rfl; exact qA; rfl) | (apply s_pick_f; rfl; exact qA; rfl)); all_goals (apply ol_mv; rfl; rfl); all_goals (first | (apply ol_gskip; rfl; rfl; exact qA; rfl) | (apply ol_gval; rfl; rfl; rfl; exact qA; apply stp_pur; apply s_fieldAddr'; rfl; exact fd_25_3; exact qZ)); all_goals (first | (apply ol_gskip; rfl; rfl; exact qA; rfl) | (apply ol_gval; rfl; rfl; rfl; exact qA; apply stp_pur; apply s_load1; rfl; rfl; exact qP)); all_goals (first | (apply ol_gskip; rfl; rfl; exact qA; rfl) | (apply ol_gval; rfl; rfl; rfl; exact qA; apply stp_pur; apply s_fieldAddr'; rfl; exact fd_25_3; exact qZ)); all_goals (first | (apply ol_gskip; rfl; rfl; exact qA; rfl) | (apply ol_gval; rfl; rfl; rfl; exact qA; apply stp_pur; apply s_load1; rfl; rfl; exact qP)); all_goals (first | (apply ol_gskip; rfl; rfl; exact qA; rfl) | (apply ol_gval; rfl; rfl; rfl; exact qA; apply s_callv; rfl; exact gf_51; (intro w' hw'; fail))); all_goals (apply ol_val; rfl; apply stp_pur; first | (apply s_pick_t; rfl; exact qA; rfl) | (apply s_pick_f; rfl; exact qA; rfl)); all_goals (apply ol_as; rfl; rfl); all_goals (apply ol_nil))
          | (apply cw_cond_true; rfl; exact qA)
          | (apply cw_cond_false; rfl; exact qA)
          | apply cw_skip
          | apply cw_ret
          | apply cw_block
          | apply cw_exit
        all_goals (refine ends [] (RVal.tmp rfl RVal.nil) Pick.nil ?_; rfl)
    · rw [decide_eq_false h2, Bool.false_and, Bool.and_false]
      repeat' first
        | apply cw_seq
        | (refine cw_region_id 0 ?_; (apply ol_val; rfl; first | (apply s_boxN; rfl; intro bk2) | (apply s_box1; rfl; rfl; intro bk2)); (apply ol_val; rfl; first | (apply s_boxN; rfl; intro bk3) | (apply s_box1; rfl; rfl; intro bk3)); (apply ol_as; rfl; rfl); (apply ol_nil))
        | (refine cw_region_id 1 ?_; (apply ol_fa; rfl; rfl; exact fd_25_0; exact qZ); (apply ol_ld; rfl; rfl; rfl; exact qP); (apply ol_fa; rfl; rfl; exact fd_25_0; exact qZ); (apply ol_ld; rfl; rfl; rfl; exact qP); (apply ol_val; rfl; apply stp_cmp; apply s_eql; rfl; rfl; all_goals (intro hc9; try (exfalso; (first | exact hc9 rfl | omega)))); all_goals (apply ol_mv; rfl; rfl); all_goals (first | (apply ol_gskip; rfl; rfl; exact qA; rfl) | (apply ol_gval; rfl; rfl; rfl; exact qA; apply stp_pur; apply s_fieldAddr'; rfl; exact fd_25_1; exact qZ)); all_goals (first | (apply ol_gskip; rfl; rfl; exact qA; rfl) | (apply ol_gval; rfl; rfl; rfl; exact qA; apply stp_pur; apply s_load1; rfl; rfl; exact qP)); all_goals (first | (apply ol_gskip; rfl; rfl; exact qA; rfl) | (apply ol_gval; rfl; rfl; rfl; exact qA; apply stp_pur; apply s_fieldAddr'; rfl; exact fd_25_1; exact qZ)); all_goals (first | (apply ol_gskip; rfl; rfl; exact qA; rfl) | (apply ol_gval; rfl; rfl; rfl; exact qA; apply stp_pur; apply s_load1; rfl; rfl; exact qP)); all_goals (first | (apply ol_gskip; rfl; rfl; exact qA; rfl) | (apply ol_gval; rfl; rfl; rfl; exact qA; apply stp_cmp; apply s_eql; rfl; rfl; all_goals (intro hc15; try (exfalso; (first | exact hc15 rfl | omega))))); all_goals (apply ol_val; rfl; apply stp_pur; first | (apply s_pick_t; rfl; exact qA; rfl) | (apply s_pick_f; rfl; exact qA; rfl)); all_goals (apply ol_mv; rfl; rfl); all_goals (first | (apply ol_gskip; rfl; rfl; exact qA; rfl) | (apply ol_gval; rfl; rfl; rfl; exact qA; apply stp_pur; apply s_fieldAddr'; rfl; exact fd_25_2; exact qZ)); all_goals (first | (apply ol_gskip; rfl; rfl; exact qA; rfl) | (apply ol_gval; rfl; rfl; rfl; exact qA; apply stp_pur; apply s_load1; rfl; rfl; exact qP)); all_goals (first | (apply ol_gskip; rfl; rfl; exact qA; rfl) | (apply ol_gval; rfl; rfl; rfl; exact qA; apply stp_pur; apply s_fieldAddr'; rfl; exact fd_25_2; exact qZ)); all_goals (first | (apply ol_gskip; rfl; rfl; exact qA; rfl) | (apply ol_gval; rfl; rfl; rfl; exact qA; apply stp_pur; apply s_load1; rfl; rfl; exact qP)); all_goals (first | (apply ol_gskip; rfl; rfl; exact qA; rfl) | (apply ol_gval; rfl; rfl; rfl; exact qA; apply s_callv; rfl; exact gf_16; (intro w' hw'; fail))); all_goals (apply ol_val; rfl; apply stp_pur; first | (apply s_pick_t; rfl; exact qA; rfl) | (apply s_pick_f; rfl; exact qA; rfl)); all_goals (apply ol_mv; rfl; rfl); all_goals (first | (apply ol_gskip; rfl; rfl; exact qA; rfl) | (apply ol_gval; rfl; rfl; rfl; exact qA; apply stp_pur; apply s_fieldAddr'; rfl; exact fd_25_3; exact qZ)); all_goals (first | (apply ol_gskip; rfl; rfl; exact qA; rfl) | (apply ol_gval; rfl; rfl; rfl; exact qA; apply stp_pur; apply s_load1; rfl; rfl; exact qP)); all_goals (first | (apply ol_gskip; rfl; rfl; exact qA; rfl) | (apply ol_gval; rfl; rfl; rfl; exact qA; apply stp_pur; apply s_fieldAddr'; rfl; exact fd_25_3; exact qZ)); all_goals (first | (apply ol_gskip; rfl; rfl; exact qA; rfl) | (apply ol_gval; rfl; rfl; rfl; exact qA; apply stp_pur; apply s_load1; rfl; rfl; exact qP)); all_goals (first | (apply ol_gskip; rfl; rfl; exact qA; rfl) | (apply ol_gval; rfl; rfl; rfl; exact qA; apply s_callv; rfl; exact gf_51; (intro w' hw'; fail))); all_goals (apply ol_val; rfl; apply stp_pur; first | (apply s_pick_t; rfl; exact qA; rfl) | (apply s_pick_f; rfl; exact qA; rfl)); all_goals (apply ol_as; rfl; rfl); all_goals (apply ol_nil))
        | (apply cw_cond_true; rfl; exact qA)
        | (apply cw_cond_false; rfl; exact qA)
        | apply cw_skip
        | apply cw_ret
        | apply cw_block
        | apply cw_exit
      all_goals (refine ends [] (RVal.tmp rfl RVal.nil) Pick.nil ?_; rfl)
  · rw [decide_eq_false h1, Bool.false_and]
    repeat' first
      | apply cw_seq
      | (refine cw_region_id 0 ?_; (apply ol_val; rfl; first | (apply s_boxN; rfl; intro bk2) | (apply s_box1; rfl; rfl; intro bk2)); (apply ol_val; rfl; first | (apply s_boxN; rfl; intro bk3) | (apply s_box1; rfl; rfl; intro bk3)); (apply ol_as; rfl; rfl); (apply ol_nil))
      | (refine cw_region_id 1 ?_; (apply ol_fa; rfl; rfl; exact fd_25_0; exact qZ); (apply ol_ld; rfl; rfl; rfl; exact qP); (apply ol_fa; rfl; rfl; exact fd_25_0; exact qZ); (apply ol_ld; rfl; rfl; rfl; exact qP); (apply ol_val; rfl; apply stp_cmp; apply s_eql; rfl; rfl; all_goals (intro hc9; try (exfalso; (first | exact hc9 rfl | omega)))); all_goals (apply ol_mv; rfl; rfl); all_goals (first | (apply ol_gskip; rfl; rfl; exact qA; rfl) | (apply ol_gval; rfl; rfl; rfl; exact qA; apply stp_pur; apply s_fieldAddr'; rfl; exact fd_25_1; exact qZ)); all_goals (first | (apply ol_gskip; rfl; rfl; exact qA; rfl) | (apply ol_gval; rfl; rfl; rfl; exact qA; apply stp_pur; apply s_load1; rfl; rfl; exact qP)); all_goals (first | (apply ol_gskip; rfl; rfl; exact qA; rfl) | (apply ol_gval; rfl; rfl; rfl; exact qA; apply stp_pur; apply s_fieldAddr'; rfl; exact fd_25_1; exact qZ)); all_goals (first | (apply ol_gskip; rfl; rfl; exact qA; rfl) | (apply ol_gval; rfl; rfl; rfl; exact qA; apply stp_pur; apply s_load1; rfl; rfl; exact qP)); all_goals (first | (apply ol_gskip; rfl; rfl; exact qA; rfl) | (apply ol_gval; rfl; rfl; rfl; exact qA; apply stp_cmp; apply s_eql; rfl; rfl; all_goals (intro hc15; try (exfalso; (first | exact hc15 rfl | omega))))); all_goals (apply ol_val; rfl; apply stp_pur; first | (apply s_pick_t; rfl; exact qA; rfl) | (apply s_pick_f; rfl; exact qA; rfl)); all_goals (apply ol_mv; rfl; rfl); all_goals (first | (apply ol_gskip; rfl; rfl; exact qA; rfl) | (apply ol_gval; rfl; rfl; rfl; exact qA; apply stp_pur; apply s_fieldAddr'; rfl; exact fd_25_2; exact qZ)); all_goals (first | (apply ol_gskip; rfl; rfl; exact qA; rfl) | (apply ol_gval; rfl; rfl; rfl; exact qA; apply stp_pur; apply s_load1; rfl; rfl; exact qP)); all_goals (first | (apply ol_gskip; rfl; rfl; exact qA; rfl) | (apply ol_gval; rfl; rfl; rfl; exact qA; apply stp_pur; apply s_fieldAddr'; rfl; exact fd_25_2; exact qZ)); all_goals (first | (apply ol_gskip; rfl; rfl; exact qA; rfl) | (apply ol_gval; rfl; rfl; rfl; exact qA; apply stp_pur; apply s_load1; rfl; rfl; exact qP)); all_goals (first | (apply ol_gskip; rfl; rfl; exact qA; rfl) | (apply ol_gval; rfl; rfl; rfl; exact qA; apply s_callv; rfl; exact gf_16; (intro w' hw'; fail))); all_goals (apply ol_val; rfl; apply stp_pur; first | (apply s_pick_t; rfl; exact qA; rfl) | (apply s_pick_f; rfl; exact qA; rfl)); all_goals (apply ol_mv; rfl; rfl); all_goals (first | (apply ol_gskip; rfl; rfl; exact qA; rfl) | (apply ol_gval; rfl; rfl; rfl; exact qA; apply stp_pur; apply s_fieldAddr'; rfl; exact fd_25_3; exact qZ)); all_goals (first | (apply ol_gskip; rfl; rfl; exact qA; rfl) | (apply ol_gval; rfl; rfl; rfl; exact qA; apply stp_pur; apply s_load1; rfl; rfl; exact qP)); all_goals (first | (apply ol_gskip; rfl; rfl; exact qA; rfl) | (apply ol_gval; rfl; rfl; rfl; exact qA; apply stp_pur; apply s_fieldAddr'; rfl; exact fd_25_3; exact qZ)); all_goals (first | (apply ol_gskip; rfl; rfl; exact qA; rfl) | (apply ol_gval; rfl; rfl; rfl; exact qA; apply stp_pur; apply s_load1; rfl; rfl; exact qP)); all_goals (first | (apply ol_gskip; rfl; rfl; exact qA; rfl) | (apply ol_gval; rfl; rfl; rfl; exact qA; apply s_callv; rfl; exact gf_51; (intro w' hw'; fail))); all_goals (apply ol_val; rfl; apply stp_pur; first | (apply s_pick_t; rfl; exact qA; rfl) | (apply s_pick_f; rfl; exact qA; rfl)); all_goals (apply ol_as; rfl; rfl); all_goals (apply ol_nil))
      | (apply cw_cond_true; rfl; exact qA)
      | (apply cw_cond_false; rfl; exact qA)
      | apply cw_skip
      | apply cw_ret
      | apply cw_block
      | apply cw_exit
    all_goals (refine ends [] (RVal.tmp rfl RVal.nil) Pick.nil ?_; rfl)
theorem sameH_split (a b : Hd) (r : Bool) : (sameH a b && r) = (decide (a.k = b.k) && (decide (a.n = b.n) && (decide (a.B.xs = b.B.xs) && (decide (a.m = b.m) && r)))) := by
  unfold sameH
  by_cases h1 : a.k = b.k <;> by_cases h2 : a.n = b.n <;> by_cases h3 : a.B.xs = b.B.xs <;> by_cases h4 : a.m = b.m <;> simp [h1, h2, h3, h4]
theorem same_spec : ∀ (d : Nat) {M : View} {w : World}, View.le M (View.of w) → ∀ {x y : It d}, ItV M d x → ItV M d y → fullI d x → fullI d y →
    FnC Tryd.prog 43 [.agg x.enc.toArray, .agg y.enc.toArray] w (fun v _ => v = .bool (sameI d x y)) := by
  intro d
  induction d with
  | zero =>
    intro M w hM x y hx hy fx fy
    have fx : x.hd.m = 0 := fx
    have fy : y.hd.m = 0 := fy
    refine same_step hM hx.head hy.head (r := decide (x.hd.m = y.hd.m) && (([] : List (It 0)).zip ([] : List (It 0))).all fun p => sameI 0 p.1 p.2) ?_ fun w' h => ?_
    · have := sameH_split x.hd y.hd true
      rw [Bool.and_true] at this
      exact this
    · rw [fx, fy]
      exact eqF_spec h (d := 0) (L := []) (L' := []) rfl rfl (Nat.zero_le _) (b := 0) (o := 0) (b' := 0) (o' := 0) SlA.none' SlA.none' fun _ _ _ h => by cases h
  | succ d ih =>
    intro M w hM x y hx hy fx fy
    refine same_step hM hx.head hy.head (r := decide (x.hd.m = y.hd.m) && (x.2.zip y.2).all fun p => sameI d p.1 p.2) (sameH_split x.1 y.1 _) fun w' h => ?_
    obtain ⟨⟨_, _, _, hmb⟩, hl, sL, hLi⟩ := hx
    obtain ⟨_, hl', sL', hLi'⟩ := hy
    exact eqF_spec h hl hl' hmb sL sL' fun w'' z z' hz hz' h2 => ih h2 (hLi z hz) (hLi' z' hz') (fx z hz) (fy z' hz')
/-- Equal. -/
def eqP (x y : It 8) : Bool := okI 8 x && (okI 8 y && sameI 8 x y)
theorem equal_spec {M : View} {w : World} (hM : View.le M (View.of w)) {x y : It 8} (hx : ItV M 8 x) (hy : ItV M 8 y) :
    FnC Tryd.prog 24 [.agg x.enc.toArray, .agg y.enc.toArray] w (fun v _ => v = .bool (eqP x y)) := by
  have k1 := fun (w' : World) (h : View.le M (View.of w')) => valid_spec h hx
  have k2 := fun (w' : World) (h : View.le M (View.of w')) => valid_spec h hy
  have k3 := fun (h1 : okI 8 x = true) (h2 : okI 8 y = true) (w' : World) (h : View.le M (View.of w')) => same_spec 8 h hx hy (full_of_ok hx h1) (full_of_ok hy h2)
  unfold eqP
  cases h1 : okI 8 x with
  | false =>
    rw [h1] at k1
    unfold It.enc at k1 ⊢
    refine enterF (M := M) Tryd.func24 rfl rfl rfl rfl hM ?_
    rw [Bool.false_and]
    repeat' first
      | apply cw_seq
      | (refine cw_region_id 0 ?_; (apply ol_val; rfl; first | (apply s_boxN; rfl; intro bk2) | (apply s_box1; rfl; rfl; intro bk2)); (apply ol_val; rfl; first | (apply s_boxN; rfl; intro bk3) | (apply s_box1; rfl; rfl; intro bk3)); (apply ol_as; rfl; rfl); (apply ol_nil))
      | (refine cw_region_id 1 ?_; (apply ol_ldN; rfl; rfl; rfl; exact sz_25; exact qQ); (apply ol_val; rfl; apply s_callv; rfl; exact gf_14; (intro w' hw'; exact k1 w' hw'.le)); (apply ol_mv; rfl; rfl); (first | (apply ol_gskip; rfl; rfl; exact qA; rfl) | (apply ol_gval; rfl; rfl; rfl; exact qA; apply stp_pur; apply s_loadN; rfl; rfl; exact sz_25; exact qQ)); (first | (apply ol_gskip; rfl; rfl; exact qA; rfl) | (apply ol_gval; rfl; rfl; rfl; exact qA; apply s_callv; rfl; exact gf_14; (intro w' hw'; exact k1 w' hw'.le))); (apply ol_val; rfl; apply stp_pur; first | (apply s_pick_t; rfl; exact qA; rfl) | (apply s_pick_f; rfl; exact qA; rfl)); (apply ol_mv; rfl; rfl); (first | (apply ol_gskip; rfl; rfl; exact qA; rfl) | (apply ol_gval; rfl; rfl; rfl; exact qA; apply stp_pur; apply s_loadN; rfl; rfl; exact sz_25; exact qQ)); (first | (apply ol_gskip; rfl; rfl; exact qA; rfl) | (apply ol_gval; rfl; rfl; rfl; exact qA; apply stp_pur; apply s_loadN; rfl; rfl; exact sz_25; exact qQ)); (first | (apply ol_gskip; rfl; rfl; exact qA; rfl) | (apply ol_gval; rfl; rfl; rfl; exact qA; apply s_callv; rfl; exact gf_43; (intro w' hw'; fail))); (apply ol_val; rfl; apply stp_pur; first | (apply s_pick_t; rfl; exact qA; rfl) | (apply s_pick_f; rfl; exact qA; rfl)); (apply ol_as; rfl; rfl); (apply ol_nil))
      | (apply cw_cond_true; rfl; exact qA)
      | (apply cw_cond_false; rfl; exact qA)
      | apply cw_skip
      | apply cw_ret
      | apply cw_block
      | apply cw_exit
    all_goals (refine ends [] (RVal.tmp rfl RVal.nil) Pick.nil ?_; rfl)
  | true =>
    rw [h1] at k1
    cases h2 : okI 8 y with
    | false =>
      rw [h2] at k2
      unfold It.enc at k1 k2 ⊢
      refine enterF (M := M) Tryd.func24 rfl rfl rfl rfl hM ?_
      repeat' first
        | apply cw_seq
        | (refine cw_region_id 0 ?_; (apply ol_val; rfl; first | (apply s_boxN; rfl; intro bk2) | (apply s_box1; rfl; rfl; intro bk2)); (apply ol_val; rfl; first | (apply s_boxN; rfl; intro bk3) | (apply s_box1; rfl; rfl; intro bk3)); (apply ol_as; rfl; rfl); (apply ol_nil))
        | (refine cw_region_id 1 ?_; (apply ol_ldN; rfl; rfl; rfl; exact sz_25; exact qQ); (apply ol_val; rfl; apply s_callv; rfl; exact gf_14; (intro w' hw'; first | exact k1 w' hw'.le | exact k2 w' hw'.le)); (apply ol_mv; rfl; rfl); (first | (apply ol_gskip; rfl; rfl; exact qA; rfl) | (apply ol_gval; rfl; rfl; rfl; exact qA; apply stp_pur; apply s_loadN; rfl; rfl; exact sz_25; exact qQ)); (first | (apply ol_gskip; rfl; rfl; exact qA; rfl) | (apply ol_gval; rfl; rfl; rfl; exact qA; apply s_callv; rfl; exact gf_14; (intro w' hw'; first | exact k1 w' hw'.le | exact k2 w' hw'.le))); (apply ol_val; rfl; apply stp_pur; first | (apply s_pick_t; rfl; exact qA; rfl) | (apply s_pick_f; rfl; exact qA; rfl)); (apply ol_mv; rfl; rfl); (first | (apply ol_gskip; rfl; rfl; exact qA; rfl) | (apply ol_gval; rfl; rfl; rfl; exact qA; apply stp_pur; apply s_loadN; rfl; rfl; exact sz_25; exact qQ)); (first | (apply ol_gskip; rfl; rfl; exact qA; rfl) | (apply ol_gval; rfl; rfl; rfl; exact qA; apply stp_pur; apply s_loadN; rfl; rfl; exact sz_25; exact qQ)); (first | (apply ol_gskip; rfl; rfl; exact qA; rfl) | (apply ol_gval; rfl; rfl; rfl; exact qA; apply s_callv; rfl; exact gf_43; (intro w' hw'; fail))); (apply ol_val; rfl; apply stp_pur; first | (apply s_pick_t; rfl; exact qA; rfl) | (apply s_pick_f; rfl; exact qA; rfl)); (apply ol_as; rfl; rfl); (apply ol_nil))
        | (apply cw_cond_true; rfl; exact qA)
        | (apply cw_cond_false; rfl; exact qA)
        | apply cw_skip
        | apply cw_ret
        | apply cw_block
        | apply cw_exit
      all_goals (refine ends [] (RVal.tmp rfl RVal.nil) Pick.nil ?_; rfl)
    | true =>
      have k3 := k3 h1 h2
      rw [h2] at k2
      generalize sameI 8 x y = r at *
      unfold It.enc at k1 k2 k3 ⊢
      refine enterF (M := M) Tryd.func24 rfl rfl rfl rfl hM ?_
      repeat' first
        | apply cw_seq
        | (refine cw_region_id 0 ?_; (apply ol_val; rfl; first | (apply s_boxN; rfl; intro bk2) | (apply s_box1; rfl; rfl; intro bk2)); (apply ol_val; rfl; first | (apply s_boxN; rfl; intro bk3) | (apply s_box1; rfl; rfl; intro bk3)); (apply ol_as; rfl; rfl); (apply ol_nil))
        | (refine cw_region_id 1 ?_; (apply ol_ldN; rfl; rfl; rfl; exact sz_25; exact qQ); (apply ol_val; rfl; apply s_callv; rfl; exact gf_14; (intro w' hw'; first | exact k1 w' hw'.le | exact k2 w' hw'.le)); (apply ol_mv; rfl; rfl); (first | (apply ol_gskip; rfl; rfl; exact qA; rfl) | (apply ol_gval; rfl; rfl; rfl; exact qA; apply stp_pur; apply s_loadN; rfl; rfl; exact sz_25; exact qQ)); (first | (apply ol_gskip; rfl; rfl; exact qA; rfl) | (apply ol_gval; rfl; rfl; rfl; exact qA; apply s_callv; rfl; exact gf_14; (intro w' hw'; first | exact k1 w' hw'.le | exact k2 w' hw'.le))); (apply ol_val; rfl; apply stp_pur; first | (apply s_pick_t; rfl; exact qA; rfl) | (apply s_pick_f; rfl; exact qA; rfl)); (apply ol_mv; rfl; rfl); (first | (apply ol_gskip; rfl; rfl; exact qA; rfl) | (apply ol_gval; rfl; rfl; rfl; exact qA; apply stp_pur; apply s_loadN; rfl; rfl; exact sz_25; exact qQ)); (first | (apply ol_gskip; rfl; rfl; exact qA; rfl) | (apply ol_gval; rfl; rfl; rfl; exact qA; apply stp_pur; apply s_loadN; rfl; rfl; exact sz_25; exact qQ)); (first | (apply ol_gskip; rfl; rfl; exact qA; rfl) | (apply ol_gval; rfl; rfl; rfl; exact qA; apply s_callv; rfl; exact gf_43; (intro w' hw'; exact k3 w' hw'.le))); (apply ol_val; rfl; apply stp_pur; first | (apply s_pick_t; rfl; exact qA; rfl) | (apply s_pick_f; rfl; exact qA; rfl)); (apply ol_as; rfl; rfl); (apply ol_nil))
        | (apply cw_cond_true; rfl; exact qA)
        | (apply cw_cond_false; rfl; exact qA)
        | apply cw_skip
        | apply cw_ret
        | apply cw_block
        | apply cw_exit
      all_goals (refine ends [] (RVal.tmp rfl RVal.nil) Pick.nil ?_; rfl)
end Go.Proofs.YtkkfgeekdaalmaaDoor
namespace Go.Proofs.YtkkfgeekdaalmaaDoor
set_option maxRecDepth 20000
set_option linter.unusedSimpArgs false
set_option linter.unusedVariables false
open Go Go.Fw
/-- One more item is counted. -/
def cntS (f : Nat → Nat) (most n : Nat) : Nat := if n < most then n + f (most - n) else n
/-- How many items an item has, but at most so many. -/
def cntI : (d : Nat) → It d → Nat → Nat
  | 0, _, _ => 1
  | d + 1, p, most => p.2.foldl (fun n x => cntS (cntI d x) most n) 1
theorem cntI_succ {d : Nat} (h : Hd) (L : List (It d)) (most : Nat) : cntI (d + 1) (h, L) most = L.foldl (fun n x => cntS (cntI d x) most n) 1 := rfl
theorem cntI_foldl {d : Nat} (ih : ∀ (x : It d) (most : Nat), 1 ≤ most → 1 ≤ cntI d x most ∧ cntI d x most ≤ most) {most : Nat} : ∀ (L : List (It d)) (n : Nat), 1 ≤ n → n ≤ most → 1 ≤ L.foldl (fun n x => cntS (cntI d x) most n) n ∧ L.foldl (fun n x => cntS (cntI d x) most n) n ≤ most
  | [], n, h1, h2 => ⟨h1, h2⟩
  | x :: L, n, h1, h2 => by
    rw [List.foldl_cons]
    have : 1 ≤ cntS (cntI d x) most n ∧ cntS (cntI d x) most n ≤ most := by
      unfold cntS
      split
      · rename_i h
        have := ih x (most - n) (by omega)
        omega
      · exact ⟨h1, h2⟩
    exact cntI_foldl ih L _ this.1 this.2
theorem cntI_le : ∀ {d : Nat} (x : It d) (most : Nat), 1 ≤ most → 1 ≤ cntI d x most ∧ cntI d x most ≤ most
  | 0, _, most, h => ⟨Nat.le_refl _, h⟩
  | d + 1, p, most, h => cntI_foldl (fun x m hm => cntI_le x m hm) p.2 1 (Nat.le_refl _) h
theorem foldl_stop {α : Type} {f : α → Nat → Nat} {most : Nat} : ∀ (L : List α) (n : Nat), most ≤ n → L.foldl (fun n x => cntS (f x) most n) n = n
  | [], _, _ => rfl
  | x :: L, n, h => by
    rw [List.foldl_cons, show cntS (f x) most n = n from if_neg (by omega)]
    exact foldl_stop L n h
end Go.Proofs.YtkkfgeekdaalmaaDoor
namespace Go.Proofs.YtkkfgeekdaalmaaDoor
set_option maxRecDepth 20000
set_option linter.unusedSimpArgs false
set_option linter.unusedVariables false
open Go Go.Fw
attribute [local irreducible] CW OL OD FX Stp FnC FnV FnA FnM Ret cntI cntS
set_option maxHeartbeats 3200000
theorem count_one {M : View} {w : World} (hM : View.le M (View.of w)) {d : Nat} {x : It d} {most : Nat} (hm : most ≤ 1) :
    FnC Tryd.prog 22 [.agg x.enc.toArray, .int .i64 (most : Nat)] w (fun v _ => v = .int .i64 1) := by
  unfold It.enc
  generalize x.hd = h at *
  obtain ⟨k, nn, ⟨xs, Ba, Bb, Bo, Bc⟩, La, Lb, Lo, Lc, m⟩ := h
  dsimp only
  refine enterF (M := M) Tryd.func22 rfl rfl rfl rfl hM ?_
  repeat' first
    | apply cw_seq
    | (refine cw_region_id 0 ?_; (apply ol_val; rfl; first | (apply s_boxN; rfl; intro bk2) | (apply s_box1; rfl; rfl; intro bk2)); (apply ol_as; rfl; rfl); (apply ol_nil))
    | (refine cw_region_id 1 ?_; (apply ol_as; rfl; rfl); (apply ol_nil))
    | (refine cw_region_id 2 ?_; (apply ol_as; rfl; rfl); (apply ol_nil))
    | (apply cw_cond_true; rfl; exact qA)
    | (apply cw_cond_false; rfl; exact qA)
    | apply cw_skip
    | apply cw_ret
    | apply cw_block
    | apply cw_exit
  refine cw_loopK (σ := Nat) [1, 2, 5] (by (repeat (first | exact Keep.nil | (apply Keep.cons; rfl)))) (fun i => [(6, .int .i64 i)]) (fun _ => M) (fun _ => [⟨some bk2, [.int .i64 k, .int .i64 nn, .slice Ba xs.length Bc, .slice La m Lc], 25⟩]) (fun i => i = 0) (fun i => 1 - i) 0 (by (repeat (first | exact trivial | refine And.intro rfl ?_))) (View.le.refl _) (by exact qK) rfl ?_
  rintro i rfl
  repeat' first
    | apply cw_seq
    | (refine cw_region_id 3 ?_; (apply ol_mv; rfl; rfl); (apply ol_fa; rfl; rfl; exact fd_25_3; exact qZ); (apply ol_ld; rfl; rfl; rfl; exact qP); (apply ol_val; rfl; apply stp_pur; apply s_len; rfl; exact el_23); (apply ol_val; rfl; apply stp_cmp; apply s_lss; rfl; rfl; all_goals (intro hc11; try (exfalso; (first | exact hc11 rfl | omega)))); all_goals (apply ol_mv; rfl; rfl); all_goals (first | (apply ol_gskip; rfl; rfl; exact qA; rfl) | (apply ol_gval; rfl; rfl; rfl; exact qA; apply stp_pur; apply s_move; rfl)); all_goals (first | (apply ol_gskip; rfl; rfl; exact qA; rfl) | (apply ol_gval; rfl; rfl; rfl; exact qA; apply stp_pur; apply s_move; rfl)); all_goals (first | (apply ol_gskip; rfl; rfl; exact qA; rfl) | (apply ol_gval; rfl; rfl; rfl; exact qA; apply stp_cmp; apply s_lss; rfl; rfl; all_goals (intro hc15; try (exfalso; (first | exact hc15 rfl | omega))))); all_goals (apply ol_val; rfl; apply stp_pur; first | (apply s_pick_t; rfl; exact qA; rfl) | (apply s_pick_f; rfl; exact qA; rfl)); all_goals (apply ol_nil))
    | (refine cw_region_id 6 ?_; (apply ol_mv; rfl; rfl); (apply ol_as; rfl; rfl); (apply ol_nil))
    | (apply cw_cond_true; rfl; exact qA)
    | (apply cw_cond_false; rfl; exact qA)
    | apply cw_skip
    | apply cw_ret
    | apply cw_block
    | apply cw_exit
  all_goals (refine ends [] (RVal.tmp rfl RVal.nil) Pick.nil ?_; rfl)
theorem count_spec : ∀ (d : Nat), d ≤ 5000 → ∀ {M : View} {w : World}, View.le M (View.of w) → ∀ {x : It d} {most : Nat}, ItV M d x → 1 ≤ most → most ≤ d + 1 →
    FnC Tryd.prog 22 [.agg x.enc.toArray, .int .i64 (most : Nat)] w (fun v _ => v = .int .i64 (cntI d x most : Nat)) := by
  intro d
  induction d with
  | zero =>
    intro _ M w hM x most hx h1 h2
    have e : cntI 0 x most = 1 := by rw [cntI]
    rw [e]
    exact count_one hM (by omega)
  | succ d ih =>
    intro hd M w hM x most hx h1 h2
    obtain ⟨h, L⟩ := x
    obtain ⟨⟨_, _, _, hmb⟩, hl, sL, hLi⟩ := hx
    unfold It.enc
    simp only [It.hd] at hl sL hLi hmb ⊢
    obtain ⟨k, nn, ⟨xs, Ba, Bb, Bo, Bc⟩, La, Lb, Lo, Lc, m⟩ := h
    dsimp only at hl sL hmb ⊢
    have e : cntI (d + 1) (⟨k, nn, ⟨xs, Ba, Bb, Bo, Bc⟩, La, Lb, Lo, Lc, m⟩, L) most = L.foldl (fun n x => cntS (cntI d x) most n) 1 := cntI_succ _ _ _
    rw [e]
    clear e
    have hle := fun i => cntI_foldl (fun x m hm => cntI_le x m hm) (L.take i) 1 (Nat.le_refl _) h1
    refine enterF (M := M) Tryd.func22 rfl rfl rfl rfl hM ?_
    repeat' first
      | apply cw_seq
      | (refine cw_region_id 0 ?_; (apply ol_val; rfl; first | (apply s_boxN; rfl; intro bk2) | (apply s_box1; rfl; rfl; intro bk2)); (apply ol_as; rfl; rfl); (apply ol_nil))
      | (refine cw_region_id 1 ?_; (apply ol_as; rfl; rfl); (apply ol_nil))
      | (refine cw_region_id 2 ?_; (apply ol_as; rfl; rfl); (apply ol_nil))
      | (apply cw_cond_true; rfl; exact qA)
      | (apply cw_cond_false; rfl; exact qA)
      | apply cw_skip
      | apply cw_ret
      | apply cw_block
      | apply cw_exit
    refine cw_loopK (σ := Nat) [1, 2] (by (repeat (first | exact Keep.nil | (apply Keep.cons; rfl)))) (fun i => [(5, .int .i64 ((L.take i).foldl (fun n x => cntS (cntI d x) most n) 1 : Nat)), (6, .int .i64 i)]) (fun _ => M) (fun _ => [⟨some bk2, [.int .i64 k, .int .i64 nn, .slice Ba xs.length Bc, .slice La m Lc], 25⟩]) (fun i => i ≤ m) (fun i => m - i) 0 (by rw [List.take_zero]; (repeat (first | exact trivial | refine And.intro rfl ?_))) (View.le.refl _) (by exact qK) (Nat.zero_le _) ?_
    intro i hi
    have hle := hle i
    by_cases him : i < m
    · have h3 : i < L.length := by omega
      have c1 := sL.cells i h3
      have hst : (L.take (i + 1)).foldl (fun n x => cntS (cntI d x) most n) 1 = cntS (cntI d L[i]) most ((L.take i).foldl (fun n x => cntS (cntI d x) most n) 1) := by rw [List.take_succ_eq_append_getElem h3, List.foldl_append]; rfl
      by_cases hn : (L.take i).foldl (fun n x => cntS (cntI d x) most n) 1 < most
      · have kC := fun (w' : World) (h : View.le M (View.of w')) => ih (by omega) h (x := L[i]) (most := most - (L.take i).foldl (fun n x => cntS (cntI d x) most n) 1) (hLi L[i] (List.getElem_mem h3)) (by omega) (by omega)
        have hc := cntI_le L[i] (most - (L.take i).foldl (fun n x => cntS (cntI d x) most n) 1) (by omega)
        have hst2 : cntS (cntI d L[i]) most ((L.take i).foldl (fun n x => cntS (cntI d x) most n) 1) = (L.take i).foldl (fun n x => cntS (cntI d x) most n) 1 + cntI d L[i] (most - (L.take i).foldl (fun n x => cntS (cntI d x) most n) 1) := by rw [cntS, if_pos hn]
        rw [hst2] at hst
        clear hst2 hLi
        generalize L[i] = z at *
        generalize hn0 : (L.take i).foldl (fun n x => cntS (cntI d x) most n) 1 = n0 at *
        generalize cntI d z (most - n0) = c0 at *
        have hsub : ((most - n0 : Nat) : Int) = (most : Int) - (n0 : Int) := by omega
        rw [hsub] at kC
        unfold It.enc at c1 kC
        repeat' first
          | apply cw_seq
          | (refine cw_region_id 3 ?_; (apply ol_mv; rfl; rfl); (apply ol_fa; rfl; rfl; exact fd_25_3; exact qZ); (apply ol_ld; rfl; rfl; rfl; (first | exact qP | (apply RdN.view; exact c1))); (apply ol_val; rfl; apply stp_pur; apply s_len; rfl; exact el_23); (apply ol_val; rfl; apply stp_cmp; apply s_lss; rfl; rfl; all_goals (intro hc11; try (exfalso; (first | exact hc11 rfl | omega)))); all_goals (apply ol_mv; rfl; rfl); all_goals (first | (apply ol_gskip; rfl; rfl; exact qA; rfl) | (apply ol_gval; rfl; rfl; rfl; exact qA; apply stp_pur; apply s_move; rfl)); all_goals (first | (apply ol_gskip; rfl; rfl; exact qA; rfl) | (apply ol_gval; rfl; rfl; rfl; exact qA; apply stp_pur; apply s_move; rfl)); all_goals (first | (apply ol_gskip; rfl; rfl; exact qA; rfl) | (apply ol_gval; rfl; rfl; rfl; exact qA; apply stp_cmp; apply s_lss; rfl; rfl; all_goals (intro hc15; try (exfalso; (first | exact hc15 rfl | omega))))); all_goals (apply ol_val; rfl; apply stp_pur; first | (apply s_pick_t; rfl; exact qA; rfl) | (apply s_pick_f; rfl; exact qA; rfl)); all_goals (apply ol_nil))
          | (refine cw_region_id 5 ?_; (apply ol_mv; rfl; rfl); (apply ol_fa; rfl; rfl; exact fd_25_3; exact qZ); (apply ol_ld; rfl; rfl; rfl; (first | exact qP | (apply RdN.view; exact c1))); (apply ol_mv; rfl; rfl); (apply ol_val; rfl; apply stp_pur; first | (apply s_indexK; rfl; rfl; exact el_23; exact sz_25; (first | rfl | exact sL.at_ (by omega)); omega) | (apply s_indexO; rfl; rfl; exact el_23; exact sz_25; (first | rfl | exact sL.at_ (by omega)); omega)); (apply ol_ldN; rfl; rfl; rfl; exact sz_25; (first | exact qQ | (apply RdN.view; exact c1))); (apply ol_mv; rfl; rfl); (apply ol_mv; rfl; rfl); (apply ol_val; rfl; apply stp_pur; apply s_sub64; rfl; rfl; omega); (apply ol_val; rfl; apply s_callv; rfl; exact gf_22; (intro w' hw'; exact kC w' hw'.le)); (apply ol_val; rfl; apply stp_pur; apply s_add64; rfl; rfl; omega); (apply ol_as; rfl; rfl); (apply ol_nil))
          | (refine cw_region_id 4 ?_; (apply ol_mv; rfl; rfl); (apply ol_val; rfl; apply stp_pur; apply s_add64; rfl; rfl; omega); (apply ol_as; rfl; rfl); (apply ol_nil))
          | (apply cw_cond_true; rfl; exact qA)
          | (apply cw_cond_false; rfl; exact qA)
          | apply cw_skip
          | apply cw_ret
          | apply cw_block
          | apply cw_exit
        refine ⟨i + 1, ⟨?_, View.le.refl _, by exact qK, him, by omega⟩⟩
        rw [hst]
        (repeat (first | exact trivial | refine And.intro rfl ?_))
      · have hfin : L.foldl (fun n x => cntS (cntI d x) most n) 1 = (L.take i).foldl (fun n x => cntS (cntI d x) most n) 1 := by
          conv => lhs; rw [← List.take_append_drop i L, List.foldl_append]
          exact foldl_stop _ _ (by omega)
        rw [hfin]
        clear hst hfin
        generalize (L.take i).foldl (fun n x => cntS (cntI d x) most n) 1 = n0 at *
        repeat' first
          | apply cw_seq
          | (refine cw_region_id 3 ?_; (apply ol_mv; rfl; rfl); (apply ol_fa; rfl; rfl; exact fd_25_3; exact qZ); (apply ol_ld; rfl; rfl; rfl; exact qP); (apply ol_val; rfl; apply stp_pur; apply s_len; rfl; exact el_23); (apply ol_val; rfl; apply stp_cmp; apply s_lss; rfl; rfl; all_goals (intro hc11; try (exfalso; (first | exact hc11 rfl | omega)))); all_goals (apply ol_mv; rfl; rfl); all_goals (first | (apply ol_gskip; rfl; rfl; exact qA; rfl) | (apply ol_gval; rfl; rfl; rfl; exact qA; apply stp_pur; apply s_move; rfl)); all_goals (first | (apply ol_gskip; rfl; rfl; exact qA; rfl) | (apply ol_gval; rfl; rfl; rfl; exact qA; apply stp_pur; apply s_move; rfl)); all_goals (first | (apply ol_gskip; rfl; rfl; exact qA; rfl) | (apply ol_gval; rfl; rfl; rfl; exact qA; apply stp_cmp; apply s_lss; rfl; rfl; all_goals (intro hc15; try (exfalso; (first | exact hc15 rfl | omega))))); all_goals (apply ol_val; rfl; apply stp_pur; first | (apply s_pick_t; rfl; exact qA; rfl) | (apply s_pick_f; rfl; exact qA; rfl)); all_goals (apply ol_nil))
          | (refine cw_region_id 6 ?_; (apply ol_mv; rfl; rfl); (apply ol_as; rfl; rfl); (apply ol_nil))
          | (apply cw_cond_true; rfl; exact qA)
          | (apply cw_cond_false; rfl; exact qA)
          | apply cw_skip
          | apply cw_ret
          | apply cw_block
          | apply cw_exit
        all_goals (refine ends [] (RVal.tmp rfl RVal.nil) Pick.nil ?_; rfl)
    · have htk : L.take i = L := List.take_of_length_le (by omega)
      rw [htk] at hle ⊢
      generalize L.foldl (fun n x => cntS (cntI d x) most n) 1 = n0 at *
      repeat' first
        | apply cw_seq
        | (refine cw_region_id 3 ?_; (apply ol_mv; rfl; rfl); (apply ol_fa; rfl; rfl; exact fd_25_3; exact qZ); (apply ol_ld; rfl; rfl; rfl; exact qP); (apply ol_val; rfl; apply stp_pur; apply s_len; rfl; exact el_23); (apply ol_val; rfl; apply stp_cmp; apply s_lss; rfl; rfl; all_goals (intro hc11; try (exfalso; (first | exact hc11 rfl | omega)))); all_goals (apply ol_mv; rfl; rfl); all_goals (first | (apply ol_gskip; rfl; rfl; exact qA; rfl) | (apply ol_gval; rfl; rfl; rfl; exact qA; apply stp_pur; apply s_move; rfl)); all_goals (first | (apply ol_gskip; rfl; rfl; exact qA; rfl) | (apply ol_gval; rfl; rfl; rfl; exact qA; apply stp_pur; apply s_move; rfl)); all_goals (first | (apply ol_gskip; rfl; rfl; exact qA; rfl) | (apply ol_gval; rfl; rfl; rfl; exact qA; apply stp_cmp; apply s_lss; rfl; rfl; all_goals (intro hc15; try (exfalso; (first | exact hc15 rfl | omega))))); all_goals (apply ol_val; rfl; apply stp_pur; first | (apply s_pick_t; rfl; exact qA; rfl) | (apply s_pick_f; rfl; exact qA; rfl)); all_goals (apply ol_nil))
        | (refine cw_region_id 6 ?_; (apply ol_mv; rfl; rfl); (apply ol_as; rfl; rfl); (apply ol_nil))
        | (apply cw_cond_true; rfl; exact qA)
        | (apply cw_cond_false; rfl; exact qA)
        | apply cw_skip
        | apply cw_ret
        | apply cw_block
        | apply cw_exit
      all_goals (refine ends [] (RVal.tmp rfl RVal.nil) Pick.nil ?_; rfl)
/-- Few items? -/
def fewI (l : List (It 3000)) : Bool := !l.any fun x => decide (3000 < cntI 3000 x 3001)
theorem few1_spec {M : View} {w : World} (hM : View.le M (View.of w)) {x : It 3000} (hx : ItV M 3000 x) :
    FnC Tryd.prog 34 [.agg x.enc.toArray] w (fun v _ => v = .bool (decide (3000 < cntI 3000 x 3001))) := by
  have kC := fun (w' : World) (h : View.le M (View.of w')) => count_spec 3000 (by decide) h hx (most := 3001) (by decide) (by decide)
  have hc := cntI_le x 3001 (by decide)
  generalize cntI 3000 x 3001 = n at *
  unfold It.enc at *
  refine enterF (M := M) Tryd.func34 rfl rfl rfl rfl hM ?_
  by_cases h : 3000 < n
  · rw [decide_eq_true h]
    repeat' first
      | apply cw_seq
      | (refine cw_region_id 0 ?_; (apply ol_val; rfl; first | (apply s_boxN; rfl; intro bk1) | (apply s_box1; rfl; rfl; intro bk1)); (apply ol_as; rfl; rfl); (apply ol_nil))
      | (refine cw_region_id 1 ?_; (apply ol_ldN; rfl; rfl; rfl; exact sz_25; exact qQ); (apply ol_val; rfl; apply s_callv; rfl; exact gf_22; (intro w' hw'; exact kC w' hw'.le)); (apply ol_val; rfl; apply stp_cmp; apply s_gtr; rfl; rfl; all_goals (intro hc5; try (exfalso; (first | exact hc5 rfl | omega)))); all_goals (apply ol_as; rfl; rfl); all_goals (apply ol_nil))
      | (apply cw_cond_true; rfl; exact qA)
      | (apply cw_cond_false; rfl; exact qA)
      | apply cw_skip
      | apply cw_ret
      | apply cw_block
      | apply cw_exit
    all_goals (refine ends [] (RVal.tmp rfl RVal.nil) Pick.nil ?_; rfl)
  · rw [decide_eq_false h]
    repeat' first
      | apply cw_seq
      | (refine cw_region_id 0 ?_; (apply ol_val; rfl; first | (apply s_boxN; rfl; intro bk1) | (apply s_box1; rfl; rfl; intro bk1)); (apply ol_as; rfl; rfl); (apply ol_nil))
      | (refine cw_region_id 1 ?_; (apply ol_ldN; rfl; rfl; rfl; exact sz_25; exact qQ); (apply ol_val; rfl; apply s_callv; rfl; exact gf_22; (intro w' hw'; exact kC w' hw'.le)); (apply ol_val; rfl; apply stp_cmp; apply s_gtr; rfl; rfl; all_goals (intro hc5; try (exfalso; (first | exact hc5 rfl | omega)))); all_goals (apply ol_as; rfl; rfl); all_goals (apply ol_nil))
      | (apply cw_cond_true; rfl; exact qA)
      | (apply cw_cond_false; rfl; exact qA)
      | apply cw_skip
      | apply cw_ret
      | apply cw_block
      | apply cw_exit
    all_goals (refine ends [] (RVal.tmp rfl RVal.nil) Pick.nil ?_; rfl)
theorem few_spec {M : View} {w : World} (hM : View.le M (View.of w)) {xs : List (It 3000)} {n c : Nat} (hn : xs.length = n) (hl : n ≤ 1000) {a : Option Addr} {b o : Nat} (s : SlA M It.enc 4 a xs b o) (hx : ∀ x ∈ xs, ItV M 3000 x) :
    FnC Tryd.prog 11 [.slice a n c] w (fun v _ => v = .bool (fewI xs)) := by
  subst hn
  have kA := fun (w' : World) (h : View.le M (View.of w')) => anyIt_spec (dd := 3000) h (cap := []) (p := fun x => decide (3000 < cntI 3000 x 3001)) (f := 34) (by kernel_rfl) (fun w'' x hxm h2 => few1_spec h2 (hx x hxm)) rfl rfl (c := c) s (by omega)
  unfold fewI
  generalize (xs.any fun x => decide (3000 < cntI 3000 x 3001)) = r at *
  refine enterF (M := M) Tryd.func11 rfl rfl rfl rfl hM ?_
  cases r with
  | true =>
    repeat' first
      | apply cw_seq
      | (refine cw_region_id 0 ?_; (apply ol_as; rfl; rfl); (apply ol_nil))
      | (refine cw_region_id 1 ?_; (apply ol_mv; rfl; rfl); (apply ol_val; rfl; apply s_callv; rfl; exact gf_20; (intro w' hw'; exact kA w' hw'.le)); (apply ol_val; rfl; apply stp_pur; first | (apply s_not_t; rfl; exact qA) | (apply s_not_f; rfl; exact qA) | (apply s_not; rfl)); (apply ol_as; rfl; rfl); (apply ol_nil))
      | (apply cw_cond_true; rfl; exact qA)
      | (apply cw_cond_false; rfl; exact qA)
      | apply cw_skip
      | apply cw_ret
      | apply cw_block
      | apply cw_exit
    all_goals (refine ends [] (RVal.tmp rfl RVal.nil) Pick.nil ?_; rfl)
  | false =>
    repeat' first
      | apply cw_seq
      | (refine cw_region_id 0 ?_; (apply ol_as; rfl; rfl); (apply ol_nil))
      | (refine cw_region_id 1 ?_; (apply ol_mv; rfl; rfl); (apply ol_val; rfl; apply s_callv; rfl; exact gf_20; (intro w' hw'; exact kA w' hw'.le)); (apply ol_val; rfl; apply stp_pur; first | (apply s_not_t; rfl; exact qA) | (apply s_not_f; rfl; exact qA) | (apply s_not; rfl)); (apply ol_as; rfl; rfl); (apply ol_nil))
      | (apply cw_cond_true; rfl; exact qA)
      | (apply cw_cond_false; rfl; exact qA)
      | apply cw_skip
      | apply cw_ret
      | apply cw_block
      | apply cw_exit
    all_goals (refine ends [] (RVal.tmp rfl RVal.nil) Pick.nil ?_; rfl)
end Go.Proofs.YtkkfgeekdaalmaaDoor
namespace Go.Proofs.YtkkfgeekdaalmaaDoor
set_option maxRecDepth 20000
set_option linter.unusedSimpArgs false
set_option linter.unusedVariables false
theorem nd_add {b A m r : Nat} (hb : 2 ≤ b) (hA : 0 < A) (hr : r < b ^ m) : nd b (b ^ m * A + r) = m + nd b A := by
  have hp : 0 < b ^ m := Nat.pow_pos (by omega)
  have hd : (b ^ m * A + r) / b ^ m = A := by rw [Nat.mul_add_div hp, Nat.div_eq_of_lt hr, Nat.add_zero]
  have hnd : 0 < nd b A := by
    rcases Nat.eq_zero_or_pos (nd b A) with h | h
    · rw [nd_zero_iff hb] at h; omega
    · exact h
  refine nd_eq hb ?_ fun _ => ?_
  · rw [Nat.pow_add]
    have h1 := nd_lt hb A
    have h2 : b ^ m * (A + 1) ≤ b ^ m * b ^ nd b A := Nat.mul_le_mul_left _ h1
    rw [Nat.mul_add, Nat.mul_one] at h2
    omega
  · rw [show m + nd b A - 1 = m + (nd b A - 1) by omega, Nat.pow_add, ← Nat.div_div_eq_div_mul, hd]
    exact nd_top hb hA
theorem dg_add {b A m r : Nat} (hb : 2 ≤ b) (hA : 0 < A) (hr : r < b ^ m) : dg b (b ^ m * A + r) = lw b m r ++ dg b A := by
  have hp : 0 < b ^ m := Nat.pow_pos (by omega)
  unfold dg
  rw [nd_add hb hA hr, lw_add, Nat.mul_add_div hp, Nat.div_eq_of_lt hr, Nat.add_zero, ← lw_mod (b := b) (j := m) (b ^ m * A + r) (Nat.le_refl _), Nat.mul_add_mod, Nat.mod_eq_of_lt hr]
/-- So many digits, the highest first. -/
def fixT (b m r : Nat) : List Int := (lw b m r).reverse.map chr
theorem fixT_length (b m r : Nat) : (fixT b m r).length = m := by unfold fixT; rw [List.length_map, List.length_reverse, lw_length]
theorem txt_pos {b n : Nat} (h : 0 < n) : txt b n = (dg b n).reverse.map chr := by unfold txt; rw [if_neg (by omega)]
theorem txt_add {b A m r : Nat} (hb : 2 ≤ b) (hA : 0 < A) (hr : r < b ^ m) : txt b (b ^ m * A + r) = txt b A ++ fixT b m r := by
  have hp : 0 < b ^ m := Nat.pow_pos (by omega)
  have h : 0 < b ^ m * A := Nat.mul_pos hp hA
  rw [txt_pos (by omega), txt_pos hA, dg_add hb hA hr, List.reverse_append, List.map_append]
  rfl
theorem lw_zeros (b k : Nat) : lw b k 0 = List.replicate k 0 := by
  induction k with
  | zero => rfl
  | succ k ih => rw [lw_succ, ih, List.replicate_succ']; simp
theorem pad_txt {b m r : Nat} (hb : 2 ≤ b) (hm : 1 ≤ m) (hr : r < b ^ m) : (txt b r).length ≤ m ∧ List.replicate (m - (txt b r).length) 48 ++ txt b r = fixT b m r := by
  rcases Nat.eq_zero_or_pos r with h | h
  · subst h
    unfold txt fixT
    rw [if_pos rfl, lw_zeros, List.reverse_replicate, List.map_replicate]
    refine ⟨hm, ?_⟩
    obtain ⟨j, rfl⟩ : ∃ j, m = j + 1 := ⟨m - 1, by omega⟩
    rw [List.replicate_succ']
    rfl
  · have hl := nd_le hb hr
    rw [txt_pos h]
    have e : ((dg b r).reverse.map chr).length = nd b r := by rw [List.length_map, List.length_reverse, lw_length]
    rw [e]
    refine ⟨hl, ?_⟩
    obtain ⟨j, rfl⟩ : ∃ j, m = nd b r + j := ⟨m - nd b r, by omega⟩
    unfold fixT
    rw [lw_add, Nat.div_eq_of_lt (nd_lt hb r), lw_zeros, List.reverse_append, List.map_append, List.reverse_replicate, List.map_replicate, Nat.add_sub_cancel_left]
    rfl
theorem txt_b {b : Nat} (hb : 2 ≤ b) (hb2 : b ≤ 16) (n : Nat) : ∀ x ∈ txt b n, 0 ≤ x ∧ x ≤ 255 := by
  intro x hx
  unfold txt at hx
  split at hx
  · obtain rfl : x = 48 := by simpa using hx
    omega
  · obtain ⟨d, hd, rfl⟩ := List.mem_map.1 hx
    have := lw_lt (by omega) _ _ d (List.mem_reverse.1 hd)
    have := chr_b (d := d) (by omega)
    omega
theorem txt_len_pos (b n : Nat) (hb : 2 ≤ b) : 0 < (txt b n).length := by
  unfold txt
  split
  · simp
  · rename_i h
    rw [List.length_map, List.length_reverse, lw_length]
    rcases Nat.eq_zero_or_pos (nd b n) with h2 | h2
    · exact absurd ((nd_zero_iff hb).1 h2) h
    · exact h2
theorem txt_len_le {b n k : Nat} (hb : 2 ≤ b) (hk : 1 ≤ k) (h : n < b ^ k) : (txt b n).length ≤ k := (pad_txt hb hk h).1
end Go.Proofs.YtkkfgeekdaalmaaDoor
