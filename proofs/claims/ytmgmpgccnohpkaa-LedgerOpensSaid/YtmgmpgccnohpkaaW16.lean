/-
  The walks of IndexFunc and DeleteFunc over entries, of Statement, Sum, and of the reference's Statement.
-/
import Derived.Test.YtmgmpgccnohpkaaW15
import Derived.Test.YtmgmpgccnohpkaaFw10
namespace Go.Proofs.Ytmgmpgccnohpkaa
set_option maxRecDepth 20000
set_option linter.unusedSimpArgs false
set_option linter.unusedVariables false
open Go Go.Fw
attribute [local irreducible] CW OL OD FX Stp FnC Ret
set_option maxHeartbeats 8000000

/-- The first element that is wanted. -/
def idxP (p : Ent → Bool) (l : List Ent) : Int := if l.any p then ((l.findIdx p : Nat) : Int) else -1

theorem indexFunc_spec (M : View) (w : World) (hM : View.le M (View.of w)) {f : Nat} {cap : List Value} {p : Ent → Bool} (hg : goFunc Try.prog f = true) (hp : ∀ (w' : World) (x : Ent), View.le M (View.of w') → FnC Try.prog f ([.agg x.enc.toArray] ++ cap) w' (fun v _ => v = .bool (p x)))
    {xs : List Ent} {a : Option Addr} {b o c : Nat} (s : SlA M Ent.enc 4 a xs b o) (hl : xs.length ≤ 4294967296) :
    FnC Try.prog 38 [.slice a xs.length c, .func (.func f) #[] cap.toArray] w (fun v _ => v = .int .i64 (idxP p xs)) := by
  refine enterF (M := M) Try.func38 rfl rfl rfl rfl hM ?_
  repeat' first
    | apply cw_seq
    | (refine cw_region_id 0 ?_; (apply ol_as; exact rfl; exact rfl); (apply ol_nil))
    | (refine cw_region_id 1 ?_; (apply ol_mv; exact rfl; exact rfl); (apply ol_val; exact rfl; apply stp_pur; apply s_len; exact rfl; exact el_22); (apply ol_mv; exact rfl; exact rfl); (apply ol_nil))
    | (apply cw_cond_true; exact rfl; (first | exact rfl | assumption))
    | (apply cw_cond_false; exact rfl; (first | exact rfl | assumption))
    | apply cw_skip
    | apply cw_ret
    | apply cw_block
    | apply cw_exit
  refine cw_loopK (σ := Nat) [0, 1, 7] (by (repeat (first | exact Keep.nil | (apply Keep.cons; exact rfl)))) (fun k => [(8, .int .i64 k)]) (fun _ => M) (fun _ => []) (fun k => k ≤ xs.length ∧ (xs.take k).any p = false) (fun k => xs.length - k) 0 (by (repeat (first | exact trivial | refine And.intro rfl ?_))) (View.le.refl _) (by (repeat (first | exact Pick.nil | (apply Pick.cons; (focus ((repeat (first | exact Spl.here | apply Spl.there)); done))) | exact Pick.refl))) ⟨by omega, by simp⟩ ?_
  intro k ⟨hk, ht⟩
  by_cases hk' : k < xs.length
  · have hsp : xs = xs.take k ++ xs[k] :: xs.drop (k + 1) := by simp
    cases hpx : p xs[k] with
    | true =>
      repeat' first
        | apply cw_seq
        | (refine cw_region_id 2 ?_; (apply ol_val; exact rfl; apply stp_cmp; apply s_lss; exact rfl; exact rfl; all_goals (intro _; try (exfalso; (first | (rename_i hh; exact hh rfl) | omega)))); all_goals (apply ol_nil))
        | (refine cw_region_id 3 ?_; (apply ol_mv; exact rfl; exact rfl); (apply ol_as; exact rfl; exact rfl); (apply ol_nil))
        | (refine cw_region_id 4 ?_; (apply ol_mv; exact rfl; exact rfl); (apply ol_mv; exact rfl; exact rfl); (apply ol_mv; exact rfl; exact rfl); (apply ol_val; exact rfl; apply stp_pur; first | (apply s_indexK; exact rfl; exact rfl; exact el_22; exact sz_34; (first | exact rfl | exact s.at_ (by omega)); omega) | (apply s_indexO; exact rfl; exact rfl; exact el_22; exact sz_34; (first | exact rfl | exact s.at_ (by omega)); omega)); (apply ol_ldN; exact rfl; exact rfl; exact rfl; exact sz_34; (first | (apply RdN.own; (focus ((repeat constructor); done)); (focus ((repeat (first | exact rfl | constructor)); done))) | (apply RdN.view; exact s.cells _ (by omega)))); (apply ol_val; exact rfl; (apply s_clov (fs := []); exact rfl; exact rfl; exact hg; (intro w' hw'; exact hp w' xs[k] hw'.le); rw [hpx])); all_goals (apply ol_nil))
        | (refine cw_region_id 5 ?_; (apply ol_mv; exact rfl; exact rfl); (apply ol_as; exact rfl; exact rfl); (apply ol_nil))
        | (refine cw_region_id 6 ?_; (apply ol_val; exact rfl; apply stp_pur; apply s_add64; exact rfl; exact rfl; omega); (apply ol_mv; exact rfl; exact rfl); (apply ol_nil))
        | (refine cw_region_id 7 ?_; (apply ol_as; exact rfl; exact rfl); (apply ol_nil))
        | (apply cw_cond_true; exact rfl; (first | exact rfl | assumption))
        | (apply cw_cond_false; exact rfl; (first | exact rfl | assumption))
        | apply cw_skip
        | apply cw_ret
        | apply cw_block
        | apply cw_exit
      refine ends [] (RVal.tmp rfl RVal.nil) Pick.nil ?_
      have h1 : xs.any p = true := List.any_eq_true.2 ⟨xs[k], List.getElem_mem hk', hpx⟩
      have h2 : xs.findIdx p = k := by
        rw [List.findIdx_eq hk']
        refine ⟨hpx, fun j hj => ?_⟩
        have := List.any_eq_false.1 ht xs[j] (List.mem_take_iff_getElem.2 ⟨j, by omega, rfl⟩)
        simpa using this
      simp [tup, idxP, h1, h2]
    | false =>
      repeat' first
        | apply cw_seq
        | (refine cw_region_id 2 ?_; (apply ol_val; exact rfl; apply stp_cmp; apply s_lss; exact rfl; exact rfl; all_goals (intro _; try (exfalso; (first | (rename_i hh; exact hh rfl) | omega)))); all_goals (apply ol_nil))
        | (refine cw_region_id 3 ?_; (apply ol_mv; exact rfl; exact rfl); (apply ol_as; exact rfl; exact rfl); (apply ol_nil))
        | (refine cw_region_id 4 ?_; (apply ol_mv; exact rfl; exact rfl); (apply ol_mv; exact rfl; exact rfl); (apply ol_mv; exact rfl; exact rfl); (apply ol_val; exact rfl; apply stp_pur; first | (apply s_indexK; exact rfl; exact rfl; exact el_22; exact sz_34; (first | exact rfl | exact s.at_ (by omega)); omega) | (apply s_indexO; exact rfl; exact rfl; exact el_22; exact sz_34; (first | exact rfl | exact s.at_ (by omega)); omega)); (apply ol_ldN; exact rfl; exact rfl; exact rfl; exact sz_34; (first | (apply RdN.own; (focus ((repeat constructor); done)); (focus ((repeat (first | exact rfl | constructor)); done))) | (apply RdN.view; exact s.cells _ (by omega)))); (apply ol_val; exact rfl; (apply s_clov (fs := []); exact rfl; exact rfl; exact hg; (intro w' hw'; exact hp w' xs[k] hw'.le); rw [hpx])); all_goals (apply ol_nil))
        | (refine cw_region_id 5 ?_; (apply ol_mv; exact rfl; exact rfl); (apply ol_as; exact rfl; exact rfl); (apply ol_nil))
        | (refine cw_region_id 6 ?_; (apply ol_val; exact rfl; apply stp_pur; apply s_add64; exact rfl; exact rfl; omega); (apply ol_mv; exact rfl; exact rfl); (apply ol_nil))
        | (refine cw_region_id 7 ?_; (apply ol_as; exact rfl; exact rfl); (apply ol_nil))
        | (apply cw_cond_true; exact rfl; (first | exact rfl | assumption))
        | (apply cw_cond_false; exact rfl; (first | exact rfl | assumption))
        | apply cw_skip
        | apply cw_ret
        | apply cw_block
        | apply cw_exit
      refine ⟨k + 1, ⟨by (repeat (first | exact trivial | refine And.intro rfl ?_)), View.le.refl _, by (repeat (first | exact Pick.nil | (apply Pick.cons; (focus ((repeat (first | exact Spl.here | apply Spl.there)); done))) | exact Pick.refl)), ⟨by omega, ?_⟩, by omega⟩⟩
      rw [List.take_succ_eq_append_getElem hk', List.any_append, ht]
      simp [hpx]
  · have ek : k = xs.length := by omega
    repeat' first
      | apply cw_seq
      | (refine cw_region_id 2 ?_; (apply ol_val; exact rfl; apply stp_cmp; apply s_lss; exact rfl; exact rfl; all_goals (intro _; try (exfalso; (first | (rename_i hh; exact hh rfl) | omega)))); all_goals (apply ol_nil))
      | (refine cw_region_id 3 ?_; (apply ol_mv; exact rfl; exact rfl); (apply ol_as; exact rfl; exact rfl); (apply ol_nil))
      | (refine cw_region_id 4 ?_; (apply ol_mv; exact rfl; exact rfl); (apply ol_mv; exact rfl; exact rfl); (apply ol_mv; exact rfl; exact rfl); (apply ol_val; exact rfl; apply stp_pur; first | (apply s_indexK; exact rfl; exact rfl; exact el_22; exact sz_34; (first | exact rfl); omega) | (apply s_indexO; exact rfl; exact rfl; exact el_22; exact sz_34; (first | exact rfl); omega)); (apply ol_ldN; exact rfl; exact rfl; exact rfl; exact sz_34; (apply RdN.own; (focus ((repeat constructor); done)); (focus ((repeat (first | exact rfl | constructor)); done)))))
      | (refine cw_region_id 5 ?_; (apply ol_mv; exact rfl; exact rfl); (apply ol_as; exact rfl; exact rfl); (apply ol_nil))
      | (refine cw_region_id 6 ?_; (apply ol_val; exact rfl; apply stp_pur; apply s_add64; exact rfl; exact rfl; omega); (apply ol_mv; exact rfl; exact rfl); (apply ol_nil))
      | (refine cw_region_id 7 ?_; (apply ol_as; exact rfl; exact rfl); (apply ol_nil))
      | (apply cw_cond_true; exact rfl; (first | exact rfl | assumption))
      | (apply cw_cond_false; exact rfl; (first | exact rfl | assumption))
      | apply cw_skip
      | apply cw_ret
      | apply cw_block
      | apply cw_exit
    refine ends [] (RVal.tmp rfl RVal.nil) Pick.nil ?_
    rw [ek, List.take_length] at ht
    simp [tup, idxP, ht]

theorem indexFunc' {M : View} {w : World} (hM : View.le M (View.of w)) {f : Nat} {cap : List Value} {p : Ent → Bool} {i : Int} {xs : List Ent} (hi : idxP p xs = i) (hg : goFunc Try.prog f = true) (hp : ∀ (w' : World) (x : Ent), View.le M (View.of w') → FnC Try.prog f ([.agg x.enc.toArray] ++ cap) w' (fun v _ => v = .bool (p x)))
    {a : Option Addr} {b o c : Nat} (s : SlA M Ent.enc 4 a xs b o) (hl : xs.length ≤ 4294967296) :
    FnC Try.prog 38 [.slice a xs.length c, .func (.func f) #[] cap.toArray] w (fun v _ => v = .int .i64 i) := by
  subst hi
  exact indexFunc_spec M w hM hg hp s hl

theorem slicedA_zero {b o m sz : Nat} : slicedA (some ⟨b, o, none⟩) 0 m sz = some ⟨b, o, none⟩ := by
  unfold slicedA
  split
  · rfl
  · simp [Addr.add_lit]

structure DF where
  j : Nat
  zs : List Ent

theorem deleteFunc_spec (w : World) {f : Nat} {cap : List Value} {p : Ent → Bool} {b c : Nat} {xs : List Ent} {sp : List Value} (hb : OB.ok ⟨some b, flat Ent.enc xs ++ sp, 34⟩ w) (hg : goFunc Try.prog f = true) (hp : ∀ (w' : World) (x : Ent), View.le ((View.of w).but [b]) (View.of w') → FnC Try.prog f ([.agg x.enc.toArray] ++ cap) w' (fun v _ => v = .bool (p x)))
    (so : SO (some b) xs.length c (flat Ent.enc xs) sp 4) (hl : xs.length ≤ 4294967296) :
    Ret Try.prog 36 [.slice (some ⟨b, 0, none⟩) xs.length c, .func (.func f) #[] cap.toArray] w
      (fun v m _ => ∃ cs', m = [⟨some b, cs', 34⟩] ∧ v = .slice (some ⟨b, 0, none⟩) (xs.filter fun x => !p x).length c ∧ ∃ sp', cs' = flat Ent.enc (xs.filter fun x => !p x) ++ sp' ∧ SO (some b) (xs.filter fun x => !p x).length c (flat Ent.enc (xs.filter fun x => !p x)) sp' 4) := by
  have hcap := so.hcap
  have hle := so.hle
  have hfl := flat_length Ent.enc_length xs
  refine enter (M := (View.of w).but [b]) (mutd := [⟨some b, flat Ent.enc xs ++ sp, 34⟩]) Try.func36 rfl rfl rfl rfl (View.but_le _ _) (by simpa using hb) (by simp [View.but]) (by simp) ?_
  cases ha : xs.any p with
  | false =>
    have hi : idxP p xs = -1 := by simp [idxP, ha]
    have hf : (xs.filter fun x => !p x) = xs := List.filter_eq_self.2 fun x hx => by simpa using List.any_eq_false.1 ha x hx
    rw [hf]
    repeat' first
      | apply cw_seq
      | (refine cw_region_id 0 ?_; (apply ol_as; exact rfl; exact rfl); (apply ol_nil))
      | (refine cw_region_id 1 ?_; (apply ol_mv; exact rfl; exact rfl); (apply ol_mv; exact rfl; exact rfl); (apply ol_val; exact rfl; apply s_callv; exact rfl; exact gf_38; (intro w' hw'; exact indexFunc' (View.le.refl (View.of w')) (p := p) hi hg (fun w'' x h => hp w'' x (hw'.le.trans h)) (SlA.own (r := some b) (A := none) (xs := xs) (sp := sp) Ent.enc_length (hw'.ok_ (by (repeat (first | exact Has.here | apply Has.there)))) (fun h => by cases h)) hl)); (apply ol_as; exact rfl; exact rfl); (apply ol_nil))
      | (refine cw_region_id 2 ?_; (apply ol_mv; exact rfl; exact rfl); (apply ol_val; exact rfl; apply stp_cmp; apply s_eql; exact rfl; exact rfl; all_goals (intro _; try (exfalso; (first | (rename_i hh; exact hh rfl) | omega)))); all_goals (apply ol_nil))
      | (refine cw_region_id 3 ?_; (apply ol_mv; exact rfl; exact rfl); (apply ol_as; exact rfl; exact rfl); (apply ol_nil))
      | (refine cw_region_id 4 ?_; (apply ol_mv; exact rfl; exact rfl); (apply ol_val; exact rfl; apply stp_pur; apply s_add64; exact rfl; exact rfl; omega); (apply ol_as; exact rfl; exact rfl); (apply ol_nil))
      | (apply cw_cond_true; exact rfl; (first | exact rfl | assumption))
      | (apply cw_cond_false; exact rfl; (first | exact rfl | assumption))
      | apply cw_skip
      | apply cw_ret
      | apply cw_block
      | apply cw_exit
    refine endsM (mrefs := [b]) [⟨some b, flat Ent.enc xs ++ sp, 34⟩] [] (RVal.tmp rfl RVal.nil) (by (repeat (first | exact Pick.nil | (apply Pick.cons; (focus ((repeat (first | exact Spl.here | apply Spl.there)); done))) | exact Pick.refl))) rfl ?_
    exact ⟨_, rfl, rfl, sp, rfl, so⟩
  | true =>
    have hi : idxP p xs = (xs.findIdx p : Nat) := by simp [idxP, ha]
    obtain ⟨x0, hx0, hpx0⟩ := List.any_eq_true.1 ha
    have hlt : xs.findIdx p < xs.length := List.findIdx_lt_length_of_exists ⟨x0, hx0, hpx0⟩
    have hpi : p xs[xs.findIdx p] = true := List.findIdx_getElem
    have hbef : ∀ x ∈ xs.take (xs.findIdx p), (!p x) = true := by
      intro x hx
      obtain ⟨j, hj, rfl⟩ := List.mem_take_iff_getElem.1 hx
      simpa using List.not_of_lt_findIdx (p := p) (xs := xs) (by omega : j < xs.findIdx p)
    have hf0 : (xs.take (xs.findIdx p)).filter (fun x => !p x) = xs.take (xs.findIdx p) := List.filter_eq_self.2 hbef
    have hf1 : (xs.take (xs.findIdx p + 1)).filter (fun x => !p x) = xs.take (xs.findIdx p) := by
      rw [List.take_succ_eq_append_getElem hlt, List.filter_append, hf0]
      simp [hpi]
    generalize hi0 : xs.findIdx p = i0 at *
    repeat' first
      | apply cw_seq
      | (refine cw_region_id 0 ?_; (apply ol_as; exact rfl; exact rfl); (apply ol_nil))
      | (refine cw_region_id 1 ?_; (apply ol_mv; exact rfl; exact rfl); (apply ol_mv; exact rfl; exact rfl); (apply ol_val; exact rfl; apply s_callv; exact rfl; exact gf_38; (intro w' hw'; exact indexFunc' (View.le.refl (View.of w')) (p := p) hi hg (fun w'' x h => hp w'' x (hw'.le.trans h)) (SlA.own (r := some b) (A := none) (xs := xs) (sp := sp) Ent.enc_length (hw'.ok_ (by (repeat (first | exact Has.here | apply Has.there)))) (fun h => by cases h)) hl)); (apply ol_as; exact rfl; exact rfl); (apply ol_nil))
      | (refine cw_region_id 2 ?_; (apply ol_mv; exact rfl; exact rfl); (apply ol_val; exact rfl; apply stp_cmp; apply s_eql; exact rfl; exact rfl; all_goals (intro _; try (exfalso; (first | (rename_i hh; exact hh rfl) | omega)))); all_goals (apply ol_nil))
      | (refine cw_region_id 3 ?_; (apply ol_mv; exact rfl; exact rfl); (apply ol_as; exact rfl; exact rfl); (apply ol_nil))
      | (refine cw_region_id 4 ?_; (apply ol_mv; exact rfl; exact rfl); (apply ol_val; exact rfl; apply stp_pur; apply s_add64; exact rfl; exact rfl; omega); (apply ol_as; exact rfl; exact rfl); (apply ol_nil))
      | (apply cw_cond_true; exact rfl; (first | exact rfl | assumption))
      | (apply cw_cond_false; exact rfl; (first | exact rfl | assumption))
      | apply cw_skip
      | apply cw_ret
      | apply cw_block
      | apply cw_exit
    refine cw_loopK (σ := DF) [0, 1] (by (repeat (first | exact Keep.nil | (apply Keep.cons; exact rfl)))) (fun s => [(5, .int .i64 ((xs.take s.j).filter (fun x => !p x)).length), (6, .int .i64 s.j)]) (fun _ => (View.of w).but [b]) (fun s => [⟨some b, flat Ent.enc s.zs ++ sp, 34⟩])
      (fun s => s.j ≤ xs.length ∧ ((xs.take s.j).filter (fun x => !p x)).length < s.j ∧ s.zs.length = xs.length ∧ s.zs.take ((xs.take s.j).filter (fun x => !p x)).length = (xs.take s.j).filter (fun x => !p x) ∧ s.zs.drop s.j = xs.drop s.j) (fun s => xs.length - s.j)
      ⟨i0 + 1, xs⟩ (by rw [hf1, List.length_take, Nat.min_eq_left (by omega)]; (repeat (first | exact trivial | refine And.intro rfl ?_))) (View.le.refl _) (by (repeat (first | exact Pick.nil | (apply Pick.cons; (focus ((repeat (first | exact Spl.here | apply Spl.there)); done))) | exact Pick.refl))) ⟨by dsimp only; omega, by dsimp only; rw [hf1, List.length_take]; omega, rfl, by dsimp only; rw [hf1, List.length_take, Nat.min_eq_left (by omega)], rfl⟩ ?_
    rintro ⟨j, zs⟩ ⟨h1, h2, h3, h4, h5⟩
    dsimp only at h1 h2 h3 h4 h5
    dsimp only
    by_cases hj : j < xs.length
    · have hzj : zs[j]'(by omega) = xs[j] := by
        have e1 : (zs.drop j)[0]? = (xs.drop j)[0]? := by rw [h5]
        simp only [List.getElem?_drop, Nat.add_zero] at e1
        rw [List.getElem?_eq_getElem hj, List.getElem?_eq_getElem (by omega)] at e1
        simpa using e1
      have hnext : (xs.take (j + 1)).filter (fun x => !p x) = (xs.take j).filter (fun x => !p x) ++ (if p xs[j] = true then [] else [xs[j]]) := by
        rw [List.take_succ_eq_append_getElem hj, List.filter_append]
        congr 1
        cases hpx : p xs[j] <;> simp [hpx]
      generalize hF : (xs.take j).filter (fun x => !p x) = F at *
      cases hpx : p xs[j] with
      | true =>
        rw [if_pos hpx, List.append_nil] at hnext
        repeat' first
          | apply cw_seq
          | (refine cw_region_id 5 ?_; (apply ol_mv; exact rfl; exact rfl); (apply ol_mv; exact rfl; exact rfl); (apply ol_val; exact rfl; apply stp_pur; apply s_len; exact rfl; exact el_22); (apply ol_val; exact rfl; apply stp_cmp; apply s_lss; exact rfl; exact rfl; all_goals (intro _; try (exfalso; (first | (rename_i hh; exact hh rfl) | omega)))); all_goals (apply ol_nil))
          | (refine cw_region_id 7 ?_; (apply ol_mv; exact rfl; exact rfl); (apply ol_mv; exact rfl; exact rfl); (apply ol_val; exact rfl; apply stp_pur; first | (apply s_indexK; exact rfl; exact rfl; exact el_22; exact sz_34; (first | exact rfl); omega) | (apply s_indexO; exact rfl; exact rfl; exact el_22; exact sz_34; (first | exact rfl); omega)); (apply ol_ldN; exact rfl; exact rfl; exact rfl; exact sz_34; (first | (apply RdN.own; (focus ((repeat constructor); done)); (focus ((repeat (first | exact rfl | constructor)); done))) | (apply RdN.own; (repeat (first | exact Has.here | apply Has.there)); exact getN_flat Ent.enc_length (by omega)))); (apply ol_val; exact rfl; apply s_alloc; exact zb_34; (focus ((repeat constructor); done)); intro _); (apply ol_eff; apply s_storeN; exact rfl; exact rfl; exact sz_34; exact rfl; exact rfl; (focus ((repeat constructor); done)); (focus ((repeat constructor); done))); (apply ol_nil))
          | (refine cw_region_id 8 ?_; (apply ol_mv; exact rfl; exact rfl); (apply ol_ldN; exact rfl; exact rfl; exact rfl; exact sz_34; (first | (apply RdN.own; (focus ((repeat constructor); done)); (focus ((repeat (first | exact rfl | constructor)); done))) | (apply RdN.own; (repeat (first | exact Has.here | apply Has.there)); exact getN_flat Ent.enc_length (by omega)))); (apply ol_val; exact rfl; (apply s_clov (fs := []); exact rfl; exact rfl; exact hg; (intro w' hw'; rw [hzj]; exact hp w' xs[j] hw'.le); rw [hpx])); all_goals (apply ol_val; exact rfl; apply stp_pur; first | (apply s_not_t; exact rfl; (first | exact rfl | assumption)) | (apply s_not_f; exact rfl; (first | exact rfl | assumption)) | (apply s_not; exact rfl)); all_goals (apply ol_nil))
          | (refine cw_region_id 9 ?_; (apply ol_mv; exact rfl; exact rfl); (apply ol_mv; exact rfl; exact rfl); (apply ol_ldN; exact rfl; exact rfl; exact rfl; exact sz_34; (first | (apply RdN.own; (focus ((repeat constructor); done)); (focus ((repeat (first | exact rfl | constructor)); done))) | (apply RdN.own; (repeat (first | exact Has.here | apply Has.there)); exact getN_flat Ent.enc_length (by omega)))); (apply ol_val; exact rfl; apply stp_pur; first | (apply s_indexK; exact rfl; exact rfl; exact el_22; exact sz_34; (first | exact rfl); omega) | (apply s_indexO; exact rfl; exact rfl; exact el_22; exact sz_34; (first | exact rfl); omega)); (apply ol_eff; apply s_storeN; exact rfl; exact rfl; exact sz_34; exact rfl; exact rfl; (focus ((repeat constructor); done)); (focus ((repeat constructor); done))); (apply ol_nil))
          | (refine cw_region_id 10 ?_; (apply ol_mv; exact rfl; exact rfl); (apply ol_val; exact rfl; apply stp_pur; apply s_add64; exact rfl; exact rfl; omega); (apply ol_as; exact rfl; exact rfl); (apply ol_nil))
          | (refine cw_region_id 6 ?_; (apply ol_mv; exact rfl; exact rfl); (apply ol_val; exact rfl; apply stp_pur; apply s_add64; exact rfl; exact rfl; omega); (apply ol_as; exact rfl; exact rfl); (apply ol_nil))
          | (refine cw_region_id 11 ?_; (apply ol_mv; exact rfl; exact rfl); (apply ol_mv; exact rfl; exact rfl); (apply ol_val; exact rfl; apply stp_pur; apply s_slice; exact rfl; exact el_22; exact sz_34; exact Exists.intro _ rfl; exact rfl; exact rfl; (intro h; first | exact rfl | cases h); (first | omega | (simp; omega) | (simp; done)); (first | omega | (simp; omega) | (simp; done)); (first | omega | (simp; omega) | (simp; done))); (apply ol_eff; apply s_clear; exact rfl; exact el_22; exact zb_34; (focus ((repeat constructor); done)); exact (show _ = 4 from rfl); exact rfl; (intro _; (exact slicedA_some (by omega))); (first | omega | (simp; omega) | (simp; done))); (apply ol_nil))
          | (refine cw_region_id 12 ?_; (apply ol_mv; exact rfl; exact rfl); (apply ol_mv; exact rfl; exact rfl); (apply ol_val; exact rfl; apply stp_pur; apply s_slice; exact rfl; exact el_22; exact sz_34; exact rfl; exact Exists.intro _ rfl; exact rfl; (intro h; first | exact rfl | cases h); (first | omega | (simp; omega) | (simp; done)); (first | omega | (simp; omega) | (simp; done)); (first | omega | (simp; omega) | (simp; done))); (apply ol_as; exact rfl; exact rfl); (apply ol_nil))
          | (apply cw_cond_true; exact rfl; (first | exact rfl | assumption))
          | (apply cw_cond_false; exact rfl; (first | exact rfl | assumption))
          | apply cw_skip
          | apply cw_ret
          | apply cw_block
          | apply cw_exit
        refine ⟨⟨j + 1, zs⟩, ⟨?_, View.le.refl _, by (repeat (first | exact Pick.nil | (apply Pick.cons; (focus ((repeat (first | exact Spl.here | apply Spl.there)); done))) | exact Pick.refl)), ⟨by dsimp only; omega, ?_, h3, ?_, ?_⟩, by dsimp only; omega⟩⟩
        · dsimp only; rw [hnext]; (repeat (first | exact trivial | refine And.intro rfl ?_))
        · dsimp only; rw [hnext]; omega
        · dsimp only; rw [hnext]; exact h4
        · dsimp only; rw [← List.drop_drop, h5, List.drop_drop]
      | false =>
        rw [if_neg (by simp [hpx])] at hnext
        repeat' first
          | apply cw_seq
          | (refine cw_region_id 5 ?_; (apply ol_mv; exact rfl; exact rfl); (apply ol_mv; exact rfl; exact rfl); (apply ol_val; exact rfl; apply stp_pur; apply s_len; exact rfl; exact el_22); (apply ol_val; exact rfl; apply stp_cmp; apply s_lss; exact rfl; exact rfl; all_goals (intro _; try (exfalso; (first | (rename_i hh; exact hh rfl) | omega)))); all_goals (apply ol_nil))
          | (refine cw_region_id 7 ?_; (apply ol_mv; exact rfl; exact rfl); (apply ol_mv; exact rfl; exact rfl); (apply ol_val; exact rfl; apply stp_pur; first | (apply s_indexK; exact rfl; exact rfl; exact el_22; exact sz_34; (first | exact rfl); omega) | (apply s_indexO; exact rfl; exact rfl; exact el_22; exact sz_34; (first | exact rfl); omega)); (apply ol_ldN; exact rfl; exact rfl; exact rfl; exact sz_34; (first | (apply RdN.own; (focus ((repeat constructor); done)); (focus ((repeat (first | exact rfl | constructor)); done))) | (apply RdN.own; (repeat (first | exact Has.here | apply Has.there)); exact getN_flat Ent.enc_length (by omega)))); (apply ol_val; exact rfl; apply s_alloc; exact zb_34; (focus ((repeat constructor); done)); intro _); (apply ol_eff; first | (apply s_storeN; exact rfl; exact rfl; exact sz_34; exact rfl; exact rfl; (focus ((repeat constructor); done)); (focus ((repeat constructor); done))) | (apply s_storeN; exact rfl; exact rfl; exact sz_34; exact rfl; exact rfl; (focus ((repeat (first | exact Repl.here | apply Repl.there)); done)); exact setN_flat (v := zs[j]) Ent.enc_length (by omega))); (apply ol_nil))
          | (refine cw_region_id 8 ?_; (apply ol_mv; exact rfl; exact rfl); (apply ol_ldN; exact rfl; exact rfl; exact rfl; exact sz_34; (first | (apply RdN.own; (focus ((repeat constructor); done)); (focus ((repeat (first | exact rfl | constructor)); done))) | (apply RdN.own; (repeat (first | exact Has.here | apply Has.there)); exact getN_flat Ent.enc_length (by omega)))); (apply ol_val; exact rfl; (apply s_clov (fs := []); exact rfl; exact rfl; exact hg; (intro w' hw'; rw [hzj]; exact hp w' xs[j] hw'.le); rw [hpx])); all_goals (apply ol_val; exact rfl; apply stp_pur; first | (apply s_not_t; exact rfl; (first | exact rfl | assumption)) | (apply s_not_f; exact rfl; (first | exact rfl | assumption)) | (apply s_not; exact rfl)); all_goals (apply ol_nil))
          | (refine cw_region_id 9 ?_; (apply ol_mv; exact rfl; exact rfl); (apply ol_mv; exact rfl; exact rfl); (apply ol_ldN; exact rfl; exact rfl; exact rfl; exact sz_34; (first | (apply RdN.own; (focus ((repeat constructor); done)); (focus ((repeat (first | exact rfl | constructor)); done))) | (apply RdN.own; (repeat (first | exact Has.here | apply Has.there)); exact getN_flat Ent.enc_length (by omega)))); (apply ol_val; exact rfl; apply stp_pur; first | (apply s_indexK; exact rfl; exact rfl; exact el_22; exact sz_34; (first | exact rfl); omega) | (apply s_indexO; exact rfl; exact rfl; exact el_22; exact sz_34; (first | exact rfl); omega)); (apply ol_eff; first | (apply s_storeN; exact rfl; exact rfl; exact sz_34; exact rfl; exact rfl; (focus ((repeat constructor); done)); (focus ((repeat constructor); done))) | (apply s_storeN; exact rfl; exact rfl; exact sz_34; exact rfl; exact rfl; (focus ((repeat (first | exact Repl.here | apply Repl.there)); done)); exact setN_flat (v := zs[j]) Ent.enc_length (by omega))); (apply ol_nil))
          | (refine cw_region_id 10 ?_; (apply ol_mv; exact rfl; exact rfl); (apply ol_val; exact rfl; apply stp_pur; apply s_add64; exact rfl; exact rfl; omega); (apply ol_as; exact rfl; exact rfl); (apply ol_nil))
          | (refine cw_region_id 6 ?_; (apply ol_mv; exact rfl; exact rfl); (apply ol_val; exact rfl; apply stp_pur; apply s_add64; exact rfl; exact rfl; omega); (apply ol_as; exact rfl; exact rfl); (apply ol_nil))
          | (refine cw_region_id 11 ?_; (apply ol_mv; exact rfl; exact rfl); (apply ol_mv; exact rfl; exact rfl); (apply ol_val; exact rfl; apply stp_pur; apply s_slice; exact rfl; exact el_22; exact sz_34; exact Exists.intro _ rfl; exact rfl; exact rfl; (intro h; first | exact rfl | cases h); (first | omega | (simp; omega) | (simp; done)); (first | omega | (simp; omega) | (simp; done)); (first | omega | (simp; omega) | (simp; done))); (apply ol_eff; apply s_clear; exact rfl; exact el_22; exact zb_34; (focus ((repeat constructor); done)); exact (show _ = 4 from rfl); exact rfl; (intro _; (exact slicedA_some (by omega))); (first | omega | (simp; omega) | (simp; done))); (apply ol_nil))
          | (refine cw_region_id 12 ?_; (apply ol_mv; exact rfl; exact rfl); (apply ol_mv; exact rfl; exact rfl); (apply ol_val; exact rfl; apply stp_pur; apply s_slice; exact rfl; exact el_22; exact sz_34; exact rfl; exact Exists.intro _ rfl; exact rfl; (intro h; first | exact rfl | cases h); (first | omega | (simp; omega) | (simp; done)); (first | omega | (simp; omega) | (simp; done)); (first | omega | (simp; omega) | (simp; done))); (apply ol_as; exact rfl; exact rfl); (apply ol_nil))
          | (apply cw_cond_true; exact rfl; (first | exact rfl | assumption))
          | (apply cw_cond_false; exact rfl; (first | exact rfl | assumption))
          | apply cw_skip
          | apply cw_ret
          | apply cw_block
          | apply cw_exit
        refine ⟨⟨j + 1, zs.set F.length xs[j]⟩, ⟨?_, View.le.refl _, ?_, ⟨by dsimp only; omega, ?_, by simpa using h3, ?_, ?_⟩, by dsimp only; omega⟩⟩
        · dsimp only; rw [hnext, List.length_append]; (repeat (first | exact trivial | refine And.intro rfl ?_))
        · rw [hzj]; (repeat (first | exact Pick.nil | (apply Pick.cons; (focus ((repeat (first | exact Spl.here | apply Spl.there)); done))) | exact Pick.refl))
        · dsimp only; rw [hnext]; simp; omega
        · dsimp only
          rw [hnext, List.length_append, List.length_singleton, List.take_succ_eq_append_getElem (by simp; omega), List.take_set_of_le (Nat.le_refl _), h4]
          simp
        · dsimp only
          rw [List.drop_set_of_lt (by omega), ← List.drop_drop, h5, List.drop_drop]
    · have ej : j = xs.length := by omega
      subst ej
      rw [List.take_length] at h2 h4
      rw [List.take_length]
      generalize hF : xs.filter (fun x => !p x) = F at *
      have hfz := flat_length Ent.enc_length zs
      repeat' first
        | apply cw_seq
        | (refine cw_region_id 5 ?_; (apply ol_mv; exact rfl; exact rfl); (apply ol_mv; exact rfl; exact rfl); (apply ol_val; exact rfl; apply stp_pur; apply s_len; exact rfl; exact el_22); (apply ol_val; exact rfl; apply stp_cmp; apply s_lss; exact rfl; exact rfl; all_goals (intro _; try (exfalso; (first | (rename_i hh; exact hh rfl) | omega)))); all_goals (apply ol_nil))
        | (refine cw_region_id 7 ?_; (apply ol_mv; exact rfl; exact rfl); (apply ol_mv; exact rfl; exact rfl); (apply ol_val; exact rfl; apply stp_pur; first | (apply s_indexK; exact rfl; exact rfl; exact el_22; exact sz_34; (first | exact rfl); omega) | (apply s_indexO; exact rfl; exact rfl; exact el_22; exact sz_34; (first | exact rfl); omega)); (apply ol_ldN; exact rfl; exact rfl; exact rfl; exact sz_34; (apply RdN.own; (focus ((repeat constructor); done)); (focus ((repeat (first | exact rfl | constructor)); done)))); (apply ol_val; exact rfl; apply s_alloc; exact zb_34; (focus ((repeat constructor); done)); intro _); (apply ol_eff; apply s_storeN; exact rfl; exact rfl; exact sz_34; exact rfl; exact rfl; (focus ((repeat constructor); done)); (focus ((repeat constructor); done))); (apply ol_nil))
        | (refine cw_region_id 8 ?_; (apply ol_mv; exact rfl; exact rfl); (apply ol_ldN; exact rfl; exact rfl; exact rfl; exact sz_34; (apply RdN.own; (focus ((repeat constructor); done)); (focus ((repeat (first | exact rfl | constructor)); done)))))
        | (refine cw_region_id 9 ?_; (apply ol_mv; exact rfl; exact rfl); (apply ol_mv; exact rfl; exact rfl); (apply ol_ldN; exact rfl; exact rfl; exact rfl; exact sz_34; (apply RdN.own; (focus ((repeat constructor); done)); (focus ((repeat (first | exact rfl | constructor)); done)))); (apply ol_val; exact rfl; apply stp_pur; first | (apply s_indexK; exact rfl; exact rfl; exact el_22; exact sz_34; (first | exact rfl); omega) | (apply s_indexO; exact rfl; exact rfl; exact el_22; exact sz_34; (first | exact rfl); omega)); (apply ol_eff; apply s_storeN; exact rfl; exact rfl; exact sz_34; exact rfl; exact rfl; (focus ((repeat constructor); done)); (focus ((repeat constructor); done))); (apply ol_nil))
        | (refine cw_region_id 10 ?_; (apply ol_mv; exact rfl; exact rfl); (apply ol_val; exact rfl; apply stp_pur; apply s_add64; exact rfl; exact rfl; omega); (apply ol_as; exact rfl; exact rfl); (apply ol_nil))
        | (refine cw_region_id 6 ?_; (apply ol_mv; exact rfl; exact rfl); (apply ol_val; exact rfl; apply stp_pur; apply s_add64; exact rfl; exact rfl; omega); (apply ol_as; exact rfl; exact rfl); (apply ol_nil))
        | (refine cw_region_id 11 ?_; (apply ol_mv; exact rfl; exact rfl); (apply ol_mv; exact rfl; exact rfl); (apply ol_val; exact rfl; apply stp_pur; apply s_slice; exact rfl; exact el_22; exact sz_34; exact Exists.intro _ rfl; exact rfl; exact rfl; (intro h; first | exact rfl | cases h); (first | omega | (simp; omega) | (simp; done)); (first | omega | (simp; omega) | (simp; done)); (first | omega | (simp; omega) | (simp; done))); (apply ol_eff; apply s_clear; exact rfl; exact el_22; exact zb_34; (focus ((repeat constructor); done)); exact (show _ = 4 from rfl); exact rfl; (intro _; (exact slicedA_some (by omega))); (first | omega | (simp; omega) | (simp; done))); (apply ol_nil))
        | (refine cw_region_id 12 ?_; (apply ol_mv; exact rfl; exact rfl); (apply ol_mv; exact rfl; exact rfl); (apply ol_val; exact rfl; apply stp_pur; apply s_slice; exact rfl; exact el_22; exact sz_34; exact rfl; exact Exists.intro _ rfl; exact rfl; (intro h; first | exact rfl | cases h); (first | omega | (simp; omega) | (simp; done)); (first | omega | (simp; omega) | (simp; done)); (first | omega | (simp; omega) | (simp; done))); (apply ol_as; exact rfl; exact rfl); (apply ol_nil))
        | (apply cw_cond_true; exact rfl; (first | exact rfl | assumption))
        | (apply cw_cond_false; exact rfl; (first | exact rfl | assumption))
        | apply cw_skip
        | apply cw_ret
        | apply cw_block
        | apply cw_exit
      rw [slicedA_zero]
      refine endsM (mrefs := [b]) [_] [] (RVal.tmp rfl RVal.nil) (by (repeat (first | exact Pick.nil | (apply Pick.cons; (focus ((repeat (first | exact Spl.here | apply Spl.there)); done))) | exact Pick.refl))) rfl ?_
      have e1 : (flat Ent.enc zs ++ sp).take (0 + F.length * 4) = flat Ent.enc F := by
        have e2 : zs = F ++ zs.drop F.length := by conv => lhs; rw [← List.take_append_drop F.length zs, h4]
        rw [e2, flat_append, List.append_assoc, show 0 + F.length * 4 = (flat Ent.enc F).length by rw [flat_length Ent.enc_length]; omega, List.take_left]
      refine ⟨_, rfl, ?_, _, by rw [e1, List.append_assoc], ⟨by rw [flat_length Ent.enc_length], ?_, by omega, by simp⟩⟩
      · simp [tup]
      · have e3 := flat_length Ent.enc_length F
        simp [Value.cells]; omega
end Go.Proofs.Ytmgmpgccnohpkaa

