/-
  Operations on a journal of ours, in steps of the law JournalSafe.
-/
import Derived.Test.YtelidojkpbaofaaDoorJ19
namespace Go.Proofs.YtelidojkpbaofaaDoor
set_option maxRecDepth 20000
set_option linter.unusedSimpArgs false
set_option linter.unusedVariables false
open Go Go.Fw
/-- An operation among the arguments. -/
structure ActV where
  k : Int
  x : Sl Int
  p : Int
abbrev ActV.enc (a : ActV) : List Value := [.int .u8 a.k, .slice a.x.a a.x.xs.length a.x.c, .int .u16 a.p]
theorem ActV.enc_length (a : ActV) : a.enc.length = 3 := rfl
def ActV.Ok (M : View) (a : ActV) : Prop := (0 ≤ a.k ∧ a.k ≤ 255) ∧ (SlA M (eK .u8) 1 a.x.a a.x.xs a.x.b a.x.o ∧ isB a.x.xs) ∧ 0 ≤ a.p ∧ a.p ≤ 65535
structure SafSt where
  P : List Int
  du : Int
  af : Int
  r : Option Nat
  A : Option Addr
  c : Nat
  sp : List Value
  d : Nat
  rows : List (Sl Int)
  rr : Option Nat
  rc : Nat
  rsp : List Value
  V : View
structure SafInv (M : View) (i : Nat) (s : SafSt) : Prop where
  S : Saf i ⟨s.P, s.du, s.af⟩ (s.rows.map Sl.xs) s.d
  hr : s.r = none → s.P = []
  hc : s.P.length ≤ s.c
  so : SO s.rr s.rows.length s.rc (flat Sl.enc s.rows) s.rsp 1
  ri : RowsIn s.V s.rows
  mv : View.le M s.V
theorem newJ_u16 {a : Int} (h : 0 ≤ a ∧ a ≤ 65535) : (newJ a).af = a := by
  unfold newJ
  dsimp only
  rw [if_neg (by omega)]
theorem safInv_new {M : View} {a : Int} (ha : 0 ≤ a ∧ a ≤ 65535) : SafInv M 0 ⟨[], 0, a, none, none, 0, [], 0, [], none, 0, [], M⟩ :=
  ⟨saf_new ha, fun _ => rfl, Nat.le_refl _, SO.nil 1, fun x hx => (by cases hx), View.le.refl _⟩
/-- What a row of a journal's records gives. -/
theorem rows_short {i : Nat} {j : JV} {L : List (List Int)} {d : Nat} (h : Saf i j L d) {R : List (Sl Int)} (hR : ∀ x ∈ R, x.xs ∈ L) (hl : R.length ≤ L.length) : shortP R :=
  ⟨by have := h.hi; have := h.h30; omega, fun x hx => (h.hb _ (hR x hx)).1⟩
theorem mem_map_of {R : List (Sl Int)} {L : List (List Int)} (h : R.map Sl.xs = L) : ∀ x ∈ R, x.xs ∈ L := fun x hx => by rw [← h]; exact List.mem_map.2 ⟨x, hx, rfl⟩
theorem rows_of_read {N1 F1 : View} {R : List (Sl Int)} {L : List (List Int)} (hF : View.le F1 N1) (x1 : ∀ x ∈ R, x.xs.length ≤ x.c ∧ ∀ M', View.le F1 M' → SlA M' (eK .u8) 1 x.a x.xs x.b x.o) (hR : ∀ x ∈ R, x.xs ∈ L) (hb : ∀ b ∈ L, b.length ≤ 300 ∧ isB b) : RowsIn N1 R := fun x hx => ⟨(x1 x hx).2 N1 hF, (hb _ (hR x hx)).2⟩
end Go.Proofs.YtelidojkpbaofaaDoor
namespace Go.Proofs.YtelidojkpbaofaaDoor
set_option maxRecDepth 20000
set_option linter.unusedSimpArgs false
set_option linter.unusedVariables false
open Go Go.Fw
attribute [local irreducible] CW OL OD FX Stp FnC FnV Ret sha strOf be8 be4 frB num4 appJ syncJ crashJ readJ framesB wrN wrA rewS
set_option maxHeartbeats 800000
theorem cloneR_spec {w : World} {M : View} (hM : View.le M (View.of w)) {xs : List (Sl Int)} {n : Nat} (e1 : xs.length = n) {a : Option Addr} {b o c : Nat} (s : SlA M Sl.enc 1 a xs b o) (hl : xs.length ≤ 4294967296) :
    FnC Tryd.prog 31 [.slice a n c] w (RowRes Sl.enc 1 22 xs) := by
  subst e1
  refine enterF (M := M) Tryd.func31 rfl rfl rfl rfl hM ?_
  refine cw_none 22 ?_
  repeat' first
    | apply cw_seq
    | (refine cw_region_id 0 ?_; (apply ol_as; exact rfl; exact rfl); (apply ol_nil))
    | (refine cw_region_id 1 ?_; (apply ol_mv; exact rfl; exact rfl); (apply ol_val; exact rfl; apply stp_cmp; apply s_eqnil; exact rfl; exact el_36; all_goals (intro _; try (exfalso; (first | (rename_i hh; exact hh rfl) | omega)))); all_goals (apply ol_nil))
    | (refine cw_region_id 2 ?_; (apply ol_as; exact rfl; exact rfl); (apply ol_nil))
    | (refine cw_region_id 3 ?_; (apply ol_val; exact rfl; apply s_buildSl; exact rfl; exact el_36; exact sz_22; exact zb_22; (focus ((repeat constructor); done)); exact rfl; exact rfl; (exact Nat.le_of_ble_eq_true rfl); (focus ((repeat constructor); done)); (focus ((repeat (first | exact rfl | constructor)); done)); intro _); (apply ol_mv; exact rfl; exact rfl); (apply ol_val; exact rfl; first | (apply s_append_e; exact rfl; exact rfl; (focus ((repeat constructor); done)); exact el_36; exact sz_22; exact zb_22; exact rfl; exact by_22; (first | exact (fun _ => rfl) | (intro _; exact s.at_ (by omega))); (first | (apply RdN.own; (focus ((repeat constructor); done)); (focus ((repeat (first | exact rfl | constructor)); done))) | (apply RdN.view; exact SlA.all (fun s => s.enc_length) s)); (first | exact rfl | exact ones_flat (fun _ => rfl) _); (first | omega | (simp; omega) | (simp; done)); (first | omega | (simp; omega) | (simp; done)); intro _ _ _ _) | (apply s_append_r; exact rfl; exact rfl; (focus ((repeat constructor); done)); (first | exact rfl | exact (List.append_nil _).symm); exact el_36; exact sz_22; exact zb_22; exact rfl; exact by_22; (first | exact SO.nil _ | assumption | (exact ⟨by simp, by simp, Nat.le_refl _, by simp⟩)); (first | exact (fun _ => rfl) | (intro _; exact s.at_ (by omega))); (first | (apply RdN.own; (focus ((repeat constructor); done)); (focus ((repeat (first | exact rfl | constructor)); done))) | (apply RdN.view; exact SlA.all (fun s => s.enc_length) s)); (first | exact rfl | exact ones_flat (fun _ => rfl) _); (first | omega | (simp; omega) | (simp; done)); (first | omega | (simp; omega) | (simp; done)); intro _ _ _ _) | (apply s_append_b; exact rfl; exact rfl; (focus ((repeat constructor); done)); (first | exact rfl | exact (List.append_nil _).symm); exact el_36; exact sz_22; exact zb_22; exact rfl; exact by_22; (first | exact SO.nil _ | assumption | (exact ⟨by simp, by simp, Nat.le_refl _, by simp⟩)); (first | exact (fun _ => rfl) | (intro _; exact s.at_ (by omega))); (first | (apply RdN.own; (focus ((repeat constructor); done)); (focus ((repeat (first | exact rfl | constructor)); done))) | (apply RdN.view; exact SlA.all (fun s => s.enc_length) s)); (first | exact rfl | exact ones_flat (fun _ => rfl) _); (first | omega | (simp; omega) | (simp; done)); (first | omega | (simp; omega) | (simp; done)); intro _ _ _ _) | (apply s_append_n; exact rfl; exact rfl; (focus ((repeat constructor); done)); exact el_36; exact sz_22; exact zb_22; exact rfl; exact by_22; (first | exact (fun _ => rfl) | (intro _; exact s.at_ (by omega))); (first | (apply RdN.own; (focus ((repeat constructor); done)); (focus ((repeat (first | exact rfl | constructor)); done))) | (apply RdN.view; exact SlA.all (fun s => s.enc_length) s)); (first | exact rfl | exact ones_flat (fun _ => rfl) _); (first | omega | (simp; omega) | (simp; done)); (first | omega | (simp; omega) | (simp; done)); intro _ _ _ _)); (apply ol_as; exact rfl; exact rfl); (apply ol_nil))
    | (apply cw_cond_true; exact rfl; (first | exact rfl | assumption))
    | (apply cw_cond_false; exact rfl; (first | exact rfl | assumption))
    | apply cw_skip
    | apply cw_ret
    | apply cw_block
    | apply cw_exit
  · rename_i h
    have hx : xs = [] := by
      cases xs with
      | nil => rfl
      | cons x xs => have := s.at_ (by simp); rw [this] at h; cases h
    subst hx
    refine ends [⟨none, [], 22⟩] (by (repeat (first | exact RVal.nil | (apply RVal.tmp; exact rfl) | (apply RVal.cellN; exact rfl; exact rfl; (fail); apply RdN.own; (focus ((repeat (first | exact Has.here | apply Has.there)); done)); (focus ((repeat (first | exact GetN.nil | (apply GetN.cons; exact rfl))); done))) | (apply RVal.cell1; exact rfl; exact rfl; apply RdN.own; (focus ((repeat (first | exact Has.here | apply Has.there)); done)); exact GetN.cons rfl GetN.nil)))) (by (repeat (first | exact Pick.nil | (apply Pick.cons; (focus ((repeat (first | exact Spl.here | apply Spl.there)); done))) | exact Pick.refl))) ?_
    exact ⟨none, none, 0, [], rfl, rfl, SO.nil 1⟩
  · rename_i bb r sp cap so
    refine ends [⟨r, flat Sl.enc xs ++ sp, 22⟩] (by (repeat (first | exact RVal.nil | (apply RVal.tmp; exact rfl) | (apply RVal.cellN; exact rfl; exact rfl; (fail); apply RdN.own; (focus ((repeat (first | exact Has.here | apply Has.there)); done)); (focus ((repeat (first | exact GetN.nil | (apply GetN.cons; exact rfl))); done))) | (apply RVal.cell1; exact rfl; exact rfl; apply RdN.own; (focus ((repeat (first | exact Has.here | apply Has.there)); done)); exact GetN.cons rfl GetN.nil)))) (by (repeat (first | exact Pick.nil | (apply Pick.cons; (focus ((repeat (first | exact Spl.here | apply Spl.there)); done))) | exact Pick.refl))) ?_
    exact ⟨r, none, cap, sp, rfl, rfl, so⟩

theorem jsync_own {w : World} {P : List Int} {du af : Int} {n c : Nat} (hn : P.length = n) (hnc : n ≤ c) {r : Option Nat} {A : Option Addr} {sp : List Value} (ho : OB.ok ⟨r, flat (eK .u8) P ++ sp, 5⟩ w) (hr : r = none → P = []) :
    FnC Tryd.prog 22 [.agg [.slice (base r A) n c, .int .i64 du, .int .i64 af].toArray] w (JRE (syncJ ⟨P, du, af⟩)) :=
  jsync_spec (j := ⟨P, du, af⟩) (View.le.refl _) hn hnc (SlA.ownK ho hr)
theorem jcrash_own {w : World} {P : List Int} {du af keep : Int} {n c : Nat} (hn : P.length = n) (hnc : n ≤ c) {r : Option Nat} {A : Option Addr} {sp : List Value} (ho : OB.ok ⟨r, flat (eK .u8) P ++ sp, 5⟩ w) (hr : r = none → P = []) :
    FnC Tryd.prog 23 [.agg [.slice (base r A) n c, .int .i64 du, .int .i64 af].toArray, .int .i64 keep] w (JRE (crashJ ⟨P, du, af⟩ keep)) :=
  jcrash_spec (j := ⟨P, du, af⟩) (View.le.refl _) hn hnc (SlA.ownK ho hr) keep
/-- What was read is compared with the records (some of the first). -/
theorem same_rows {V N1 F1 : View} {w : World} (hV : View.le V (View.of w)) (hN : View.le N1 (View.of w)) (hF : View.le F1 N1) {R1 R : List (Sl Int)} {r1 : Option Nat} {n1 c1 n c : Nat} {A2 : Option Addr} {b2 o2 : Nat} {s1 : List Value} (h1 : R1.length = n1) (h2 : R.length = n) (he : R1.map Sl.xs = R.map Sl.xs) (hn : n1 ≤ 1000)
    (o1 : OB.ok ⟨r1, flat Sl.enc R1 ++ s1, 22⟩ w) (so1 : SO r1 n1 c1 (flat Sl.enc R1) s1 1) (x1 : ∀ x ∈ R1, x.xs.length ≤ x.c ∧ ∀ M', View.le F1 M' → SlA M' (eK .u8) 1 x.a x.xs x.b x.o) (hs : ∀ x ∈ R, x.xs.length ≤ 300) (sR : SlA (View.of w) Sl.enc 1 A2 R b2 o2) (hR : RowsIn V R) :
    FnC Tryd.prog 19 [.slice (base r1 none) n1 c1, .slice A2 n c] w (fun v _ => v = .bool true) := by
  subst h1
  refine sameL_spec (View.le.refl _) rfl h2 (by omega) he (SlA.own (A := none) (fun s => s.enc_length) o1 (fun h => so1.emp h)) sR (fun x hx => ⟨?_, (x1 x hx).2 _ (View.le.trans hF hN)⟩) (fun x hx => ((hR x hx).1).mono hV)
  have : x.xs ∈ R.map Sl.xs := by rw [← he]; exact List.mem_map.2 ⟨x, hx, rfl⟩
  obtain ⟨y, hy, e⟩ := List.mem_map.1 this
  have := hs y hy
  rw [← e]
  omega
end Go.Proofs.YtelidojkpbaofaaDoor
