/-
  The program logic, seventh part: struct, array and slice literals.
-/
import Derived.Test.YtkbbbflojebfgaaDoorFw6
set_option linter.unusedSimpArgs false
set_option linter.unusedVariables false
namespace Go.Fw
open Go Go.RowKit

/-- The parts of a literal, laid one after the other. -/
inductive Fil (place : Nat → Option (Nat × Nat)) : List Value → List (Nat × Value) → List Value → Prop
  | nil {cs : List Value} : Fil place cs [] cs
  | one {i off : Nat} {v : Value} {r : List (Nat × Value)} {cs cs' cs'' : List Value} : place i = some (off, 1) → v.oneCell' = true → SetAt cs off v cs' → Fil place cs' r cs'' → Fil place cs ((i, v) :: r) cs''
  | agg {i off n : Nat} {vs : List Value} {r : List (Nat × Value)} {cs cs' cs'' : List Value} : place i = some (off, n) → vs.length = n → SetN cs off vs cs' → off + n ≤ cs.length → Fil place cs' r cs'' → Fil place cs ((i, .agg vs.toArray) :: r) cs''

theorem SetAt.length {l l' : List Value} {n : Nat} {v : Value} (h : SetAt l n v l') : l'.length = l.length := by
  rw [h.spec.2]; simp
theorem SetN.length {l l' : List Value} {n : Nat} {vs : List Value} (h : SetN l n vs l') : l'.length = l.length := by
  induction h with
  | nil => rfl
  | cons h1 _ ih => rw [ih, h1.length]

theorem foldl_setN {off : Nat} {vs : List Value} : ∀ {l l' : List Value} {j : Nat}, SetN l (off + j) vs l' → ((vs.zipIdx j).foldl (fun cs (p : Value × Nat) => cs.setIfInBounds (off + p.2) p.1) l.toArray) = l'.toArray := by
  induction vs with
  | nil => intro l l' j h; cases h; rfl
  | cons v vs ih =>
    intro l l' j h
    cases h with
    | cons h1 h2 =>
      simp only [List.zipIdx_cons, List.foldl_cons]
      have e := h1.spec.2
      rw [show l.toArray.setIfInBounds (off + j) v = (l.set (off + j) v).toArray by simp, ← e]
      exact ih (by rwa [Nat.add_assoc] at h2)

theorem Fil.run {place : Nat → Option (Nat × Nat)} {cs cs' : List Value} {ps : List (Nat × Value)} (h : Fil place cs ps cs') : Instr.fill place cs.toArray ps = some cs'.toArray := by
  induction h with
  | nil => rfl
  | one h1 h2 h3 _ ih =>
    rename_i i off v r cs cs' cs'' h4
    have hv : v.cells = #[v] := by cases v <;> first | rfl | (simp [Value.oneCell'] at h2)
    have e := h3.spec
    simp only [Instr.fill, h1, hv]
    have hn : ¬ (((#[v] : Array Value).size ≠ 1 || decide (off + (#[v] : Array Value).size > cs.toArray.size)) = true) := by
      simp; omega
    rw [if_neg hn]
    have : (Array.foldl (fun cs (x : Value × Nat) => cs.setIfInBounds (off + x.2) x.1) cs.toArray (#[v] : Array Value).zipIdx) = cs'.toArray := by
      simp [Array.zipIdx, e.2]
    rw [this]
    exact ih
  | agg h1 h2 h3 h5 _ ih =>
    rename_i i off n vs r cs cs' cs'' h4
    have hv : (Value.agg vs.toArray).cells = vs.toArray := rfl
    simp only [Instr.fill, h1]
    rw [hv]
    have hn : ¬ ((vs.toArray.size ≠ n || decide (off + vs.toArray.size > cs.toArray.size)) = true) := by
      simp; omega
    rw [if_neg hn]
    have := foldl_setN (j := 0) (off := off) (by simpa using h3)
    have : (Array.foldl (fun cs (x : Value × Nat) => cs.setIfInBounds (off + x.2) x.1) cs.toArray vs.toArray.zipIdx) = cs'.toArray := by
      rw [← this]; simp
    rw [this]
    exact ih

def placesB (P : Program) : List Field → Option (List (Nat × Nat))
  | [] => some []
  | f :: r => match sizeB P f.type, placesB P r with
    | some n, some ps => some ((f.offset, n) :: ps)
    | _, _ => none
def fieldsB (P : Program) (t : TypeId) : Option (List (Nat × Nat)) := match P.underlying t with
  | some (.struct fs) => placesB P fs.toList
  | _ => none
theorem run_places {P : Program} : ∀ {l : List Field} {ps : List (Nat × Nat)} (w : World), placesB P l = some ps → (l.mapM (m := Sem) fun f => do pure (f.offset, ← sizeOf f.type)).run P w = .ok ps w
  | [], ps, w, h => by simp [placesB] at h; subst h; simp
  | f :: r, ps, w, h => by
    unfold placesB at h
    split at h
    · rename_i n ps' h1 h2
      injection h with h
      subst h
      have ih := run_places w h2
      simp only [List.mapM_cons, Sem.run_bind, run_sizeOf h1, Result.andThen_ok, Sem.run_pure, ih]
    · cases h

section
variable {C : Pr} {fm : FM} {M : View} {own : List OB} {K : Value → View → List OB → Prop} {d : Option Nat} {ty : TypeId} {pos : String} {af : Array Edge} {g : Option (Nat × Bool)}

theorem s_buildS {t : TypeId} {ps : List (Nat × Operand)} {vs : List (Nat × Value)} {pl : List (Nat × Nat)} {zs cs : List Value} (hp : evP fm ps = some vs) (hu : fieldsB C.P t = some pl) (hz : zeroB C.P t = some (.agg zs.toArray)) (hf : Fil (pl[·]?) zs vs cs) :
    Pur C ⟨d, .build t ps.toArray, ty, pos, af, g⟩ fm M own (.agg cs.toArray) := by
  intro a w hfr _
  have hps := evP_eq hfr hp
  unfold fieldsB at hu
  split at hu
  · rename_i fs e
    have hm : (fs.mapM (m := Sem) fun f => do pure (f.offset, ← sizeOf f.type)).run C.P w = .ok pl.toArray w := by
      have : fs = fs.toList.toArray := by simp
      rw [this, List.mapM_toArray]
      simp only [Sem.run_map, run_places w hu, Result.andThen_ok]
    simp only [execOp, Sem.run_bind, List.map_toArray, hps, Instr.build, run_zeroValue hz, Result.andThen_ok, run_underlying e, hm, Value.cells]
    have := hf.run
    simp only [List.getElem?_toArray, this]
    simp
  · cases hu

theorem s_buildA {t e n sz : Nat} {ps : List (Nat × Operand)} {vs : List (Nat × Value)} {zs cs : List Value} (hp : evP fm ps = some vs) (hu : tdArray C.P t = some (n, e)) (hs : sizeB C.P e = some sz) (hz : zeroB C.P t = some (.agg zs.toArray)) (hf : Fil (fun i => some (i * sz, sz)) zs vs cs) :
    Pur C ⟨d, .build t ps.toArray, ty, pos, af, g⟩ fm M own (.agg cs.toArray) := by
  intro a w hfr _
  have hps := evP_eq hfr hp
  simp only [execOp, Sem.run_bind, List.map_toArray, hps, Instr.build, run_zeroValue hz, Result.andThen_ok, run_underlying (tdArray_eq hu), run_sizeOf hs, Value.cells, hf.run]
  simp

theorem range_cells (z : List Value) (n : Nat) : (List.range (n * z.length)).map (fun i => z.toArray[i % z.toArray.size]!) = (List.replicate n z).flatten := by
  induction n with
  | zero => simp
  | succ n ih =>
    rw [Nat.add_mul, Nat.one_mul, List.range_add, List.map_append, ih, List.replicate_succ', List.flatten_append]
    congr 1
    simp only [List.map_map, List.flatten_cons, List.flatten_nil, List.append_nil]
    apply List.ext_getElem
    · simp
    · intro i h1 h2
      simp only [List.getElem_map, List.getElem_range, Function.comp, List.size_toArray]
      have : (n * z.length + i) % z.length = i := by
        rw [Nat.add_comm, Nat.mul_comm, Nat.add_mul_mod_self_left]; exact Nat.mod_eq_of_lt h2
      rw [this]
      simp [h2]

theorem s_buildSl {t e n sz : Nat} {ps : List (Nat × Operand)} {vs : List (Nat × Value)} {z : Value} {zs z0 cs : List Value} (hp : evP fm ps = some vs) (hu : tdSlice C.P t = some e) (hs : sizeB C.P e = some sz) (hz : zeroB C.P e = some z) (hzc : LEq z.cells.toList zs) (hlen : zs.length = sz) (h0 : Nat.blt 0 sz = true) (hn : n * sz ≤ 16777216)
    (hr : LEq ((List.replicate n zs).flatten) z0) (hf : Fil (fun i => some (i * sz, sz)) z0 vs cs) (k : ∀ b, K (.slice (some ⟨b, 0, none⟩) n n) M (⟨some b, cs, e⟩ :: own)) :
    Stp C ⟨d, .buildSlice t n ps.toArray, ty, pos, af, g⟩ fm M own K :=
  stp_new (v := fun b => .slice (some ⟨b, 0, none⟩) n n) (fun a w hfr _ => by
    have hps := evP_eq hfr hp
    have h0' : 0 < sz := by simp [Nat.blt] at h0; omega
    have ez := hzc.eq
    have er := hr.eq
    have hcs : z.cells = zs.toArray := by rw [← ez]
    have hrc : (Array.range (n * sz)).map (fun i => z.cells[i % z.cells.size]!) = z0.toArray := by
      apply Array.ext'
      rw [Array.toList_map, Array.toList_range, ← er, hcs, ← hlen, range_cells zs]
    have hne : ¬ (n * sz > 2 ^ 24) := by omega
    have hstep : (Instr.buildSlice t n vs.toArray).run C.P w = .ok (.slice (some ⟨w.heap.size, 0, none⟩) n n) { w with heap := w.heap.push (.cells cs.toArray e) } := by
      by_cases hz0 : n * sz = 0
      · have hnil : z0 = [] := by
          have : z0.length = 0 := by rw [← er]; simp [hlen]; rcases Nat.mul_eq_zero.1 hz0 with h | h <;> omega
          exact List.eq_nil_of_length_eq_zero this
        subst hnil
        have hfr := hf.run
        simp only [Instr.buildSlice, Sem.run_bind, run_underlying (tdSlice_eq hu), Result.andThen_ok, run_sizeOf hs, hne, if_false, hz0, if_true, Sem.run_pure]
        simp only [Array.range, List.range_zero]
        simp [hfr, newRow, -World.alloc_eq]
      · simp only [Instr.buildSlice, Sem.run_bind, run_underlying (tdSlice_eq hu), Result.andThen_ok, run_sizeOf hs, hne, if_false, hz0, Sem.run_pure, run_zeroValue hz, hrc]
        simp [hf.run, newRow, -World.alloc_eq]
    simp only [execOp, Sem.run_bind, List.map_toArray, hps, hstep, Result.andThen_ok]
    rfl) k
end
end Go.Fw
