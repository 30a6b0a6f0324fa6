/-
  EncodeViews, the second form, holds: where the arguments together are of bulk at most 1048576, the law answers true, and the
  arguments read afterwards as they read before; the listed variables hold what the program's text lays.
  No further condition.
-/
import Derived.Test.YtkkfgeekdaalmaaDoorYgw
import Derived.Deep.DeepHandedRow
namespace Go.Proofs.YtkkfgeekdaalmaaDoor
set_option maxRecDepth 20000
set_option linter.unusedSimpArgs false
set_option linter.unusedVariables false
open Go Go.Fw Go.ChangeShapes Go.WideShapes Go.ChangeAt Go.RowKit
theorem und_45 : Tryd.prog.underlying 45 = some (.slice 3) := by kernel_rfl
theorem cellsOf_3 : Tryd.prog.cellsOf 3 = 1 := by kernel_rfl
theorem views_reads (os : Os) {H : Type} (enc : TypeId × Value → H) : DataW.whole enc Tryd.prog ((World.laidAll Tryd.prog os laidL).forCall (fun _ _ => 0) ⟨#[], #[.agg #[.int .i64 0, .int .i64 0, .slice none 0 0, .slice none 0 0], .agg #[.int .i64 0, .int .i64 0, .slice none 0 0, .slice none 0 0], .slice none 0 0], []⟩).memory Tryd.f9.params.toList Rows.encodeViewsSpec.vars false #[.agg #[.int .i64 0, .int .i64 0, .slice none 0 0, .slice none 0 0], .agg #[.int .i64 0, .int .i64 0, .slice none 0 0, .slice none 0 0], .slice none 0 0].toList 8 = some ([.agg [.lit (.int .i64 0), .lit (.int .i64 0), .nil, .nil], .agg [.lit (.int .i64 0), .lit (.int .i64 0), .nil, .nil], .nil], [], []) := by kernel_rfl
set_option maxRecDepth 100000 in
theorem views_contract (H : Type) (enc : TypeId × Value → H) (W : World) (base : Nat) (args : Array Value) (ds gs : List (DataW H)) (before : List MemPlace)
    (hval : ∀ (j : Nat) t v, Tryd.f9.params[j]? = some t → args[j]? = some v → Value.okWide Tryd.prog W .any base t v)
    (hW : DataW.Whole enc Tryd.prog Tryd.f9.params.toList Rows.encodeViewsSpec.vars false W args.toList ds gs before)
    (hk : Rows.uptoBulkAll (ds ++ gs) ≤ 1048576)
    (hz : (DataW.weightsEach Tryd.prog (Tryd.f9.params.toList ++ (OpenSpec.ofChange Rows.encodeViewsSpec).bare.plain.varTypes Tryd.prog) (ds ++ gs)).all (· ≤ reachBytes) = true)
    (hX : laidMetH Tryd.prog laidL W) :
    Calls Tryd.prog 9 args W fun e W' => ∃ v, e = .returned v ∧ Rows.encodeViewsSpec.post enc Tryd.prog Tryd.f9 false true false false W args v W' := by
  have hL := laid_ok hX
  refine law_contract (tb := 4) Tryd.laidOut (by kernel_rfl) (by kernel_rfl) rfl rfl (by kernel_rfl) ?_ W args ds gs before hW ?_
  · intro ds h
    match ds, h with
    | [d1, d2, d3], _ => exact ⟨rfl, rfl, rfl⟩
  · intro p hA0
    have hA : DataW.TrodAll enc Tryd.prog W 0 (fun _ => true) true Tryd.f9.params.toList args.toList ds p := hA0
    rw [Tryd.params9] at hA hval
    obtain ⟨v0, v1, v2, d0, d1, d2, p0, p1, p2, rfl, rfl, rfl, h0, h1, h2⟩ := trodAll_three hA
    simp only [List.cons_append, List.nil_append, Rows.uptoBulkAll] at hk
    have w0 := light_arg (j := 0) (t := 25) hz rfl rfl
    obtain ⟨x0, e0, V0, g0, B0⟩ := open_item_d 8 (hval 0 25 v0 rfl rfl) h0 w0
    obtain ⟨X0, f0, Y0, _⟩ := open_item 3000 (hval 0 25 v0 rfl rfl) h0 w0
    have E0 : X0.enc = x0.enc := agg_inj (f0.symm.trans e0)
    subst e0
    have w1 := light_arg (j := 1) (t := 25) hz rfl rfl
    obtain ⟨x1, e1, V1, g1, B1⟩ := open_item_d 8 (hval 1 25 v1 rfl rfl) h1 w1
    obtain ⟨X1, f1, Y1, _⟩ := open_item 3000 (hval 1 25 v1 rfl rfl) h1 w1
    have E1 : X1.enc = x1.enc := agg_inj (f1.symm.trans e1)
    subst e1
    obtain ⟨a2, l2, b2, o2, c2, rfl, s2, i2, _, _, _⟩ := open_rowK und_45 und_3 cellsOf_3 (hval 2 45 v2 rfl rfl) h2
    exact law_views (View.le.refl _) hL V0 Y0 E0 g0 (by have := encI_wt (x := x0); omega) V1 Y1 E1 g1 rfl s2
set_option maxRecDepth 100000 in
theorem views_lifted (os : Os) (started : os.Started) (H : Type) (enc : TypeId × Value → H) (F : Stop.Interp) :
    ReturnsInHanded {} Tryd.checked os 9 .any ((Rows.OpenSpec.upto Rows.encodeViewsSpec).preRow enc Tryd.prog Tryd.f9 Rows.encodeViewsUptoRow.domain false Rows.encodeViewsUptoRow.laid) (((Rows.OpenSpec.upto Rows.encodeViewsSpec).at F).post enc Tryd.prog Tryd.f9 false true false false) := by
  refine returnsInHanded_of_row (C := Tryd.checked) (s := Rows.OpenSpec.upto Rows.encodeViewsSpec) Tryd.own started (by kernel_rfl) Tryd.func9
    (witness_row_at (enc := enc) (C := Tryd.checked) false (World.laidAll Tryd.prog os laidL) #[.agg #[.int .i64 0, .int .i64 0, .slice none 0 0, .slice none 0 0], .agg #[.int .i64 0, .int .i64 0, .slice none 0 0, .slice none 0 0], .slice none 0 0] (World.laidAll_os _ _ _) (by kernel_rfl) (by kernel_rfl) (by kernel_rfl)
      (OpenSpec.preRow_of_cond 8 (views_reads os enc) (by kernel_rfl) (fun k hk => by cases hk; kernel_rfl) (by kernel_rfl) (laidMet_laidAll _ (by kernel_rfl) (by kernel_rfl)))) ?_
  intro W base args ds gs before hval hW _ hcond hz hL _ _
  have hk := of_decide_eq_true (hcond _ rfl)
  exact views_contract H enc W base args ds gs before hval hW hk hz hL
theorem views_row : Rows.EncodeViewsUptoSaid :=
  OpenClaim.holds_of_cond 9 Tryd.f9 rfl rfl rfl rfl rfl rfl rfl ⟨rfl, rfl, rfl, rfl, rfl⟩ rfl rfl rfl rfl rfl (by kernel_rfl) Tryd.func9 (by kernel_rfl)
    (of_decide_eq_true (by kernel_rfl)) (by unfold Func.isWrapper; rw [if_neg (of_decide_eq_false (by kernel_rfl))]; exact ⟨rfl, rfl⟩)
    (fun os started H enc _ F => by rw [OpenClaim.pre_eq_preRow]; exact views_lifted os started H enc F)
theorem views_holds : Rows.EncodeViewsUptoCardSaid :=
  Claim7.holds_tied_plain_at .later [] [.data, .data, .data] true (true, "4370ec11e90c938894e1fd964864e385fb1b668d90bca99edf7b3b62276c35cd") false
    views_row (fun _ h => by cases h) (by kernel_rfl) (fun _ h => by cases h) encodeViewsUpto_row_tie rfl ⟨rfl, rfl⟩ (by kernel_rfl) rfl
    (fun f fn hf hfn => by
      obtain rfl : f = 9 := Option.some.inj ((show Tryd.prog.funcNamed "specie/specielaw07.EncodeViews" = some 9 by kernel_rfl).symm.trans hf) |>.symm
      obtain rfl : fn = Tryd.f9 := (Option.some.inj (Tryd.func9.symm.trans hfn)).symm
      exact ⟨by kernel_rfl, fun j t ht => by
        rw [Tryd.params9] at ht
        have h1 : [25, 25, 45].all (fun t => !Tryd.prog.wantsStandIn t) = true := by kernel_rfl
        have h2 : t ∈ [25, 25, 45] := by
          have := List.mem_of_getElem? (l := [25, 25, 45]) (i := j) (by simpa using ht)
          exact this
        have h3 := List.all_eq_true.1 h1 t h2
        rw [Bool.not_eq_true'] at h3
        exact h3⟩)
    (by kernel_rfl)
end Go.Proofs.YtkkfgeekdaalmaaDoor
