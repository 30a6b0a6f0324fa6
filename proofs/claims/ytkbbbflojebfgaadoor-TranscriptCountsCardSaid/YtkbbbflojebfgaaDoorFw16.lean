/-
  The program logic, sixteenth part: bytes to strings, strings to bytes.
-/
import Derived.Test.YtkbbbflojebfgaaDoorFw15
import Derived.Laws.IdiomStrings
import Derived.Laws.BytesArg
set_option linter.unusedSimpArgs false
set_option linter.unusedVariables false
namespace Go.Fw
open Go Go.RowKit

def intsB (s : ByteArray) : List Int := s.data.toList.map fun b => (b.toNat : Int)
theorem intsB_length (s : ByteArray) : (intsB s).length = s.size := by unfold intsB; rw [List.length_map]; exact Array.length_toList
theorem intsB_b (s : ByteArray) : ∀ x ∈ intsB s, 0 ≤ x ∧ x ≤ 255 := by
  intro x hx
  obtain ⟨b, _, rfl⟩ := List.mem_map.1 hx
  have := b.toNat_lt
  omega
theorem strOf_intsB (s : ByteArray) : strOf (intsB s) = s := by
  unfold strOf bytesOf intsB
  apply ByteArray.ext
  apply Array.toList_inj.1
  simp only [List.map_map]
  conv => rhs; rw [← List.map_id s.data.toList]
  apply List.map_congr_left
  intro x _
  simp
theorem intsB_strOf {xs : List Int} (h : ∀ x ∈ xs, 0 ≤ x ∧ x ≤ 255) : intsB (strOf xs) = xs := by
  unfold strOf bytesOf intsB
  simp only [List.map_map]
  conv => rhs; rw [← List.map_id xs]
  apply List.map_congr_left
  intro x hx
  have := h x hx
  simp only [Function.comp, id]
  have h3 : x.toNat < 256 := by omega
  rw [UInt8.toNat_ofNat_of_lt' h3]
  omega
theorem strOf_size (xs : List Int) : (strOf xs).size = xs.length := by simp [strOf, bytesOf, ByteArray.size]
theorem intsB_inj {a b : ByteArray} (h : intsB a = intsB b) : a = b := by rw [← strOf_intsB a, ← strOf_intsB b, h]

section
variable {C : Pr} {fm : FM} {M : View} {own : List OB} {K : Value → View → List OB → Prop} {d : Option Nat} {ty : TypeId} {pos : String} {af : Array Edge} {g : Option (Nat × Bool)}

/-- A slice turned into its own type (a constant's bytes): the run-time's mark. -/
theorem s_convSame {t e : TypeId} {x : Operand} {b o n c : Nat} {cs : List Value} {T : TypeId} {p q : List OB} (hx : ev fm x = some (.slice (some ⟨b, o, none⟩) n c)) (ht : tdSlice C.P t = some e) (he : C.P.underlying e = some (.int .u8)) (hp : Spl own ⟨some b, cs, T⟩ p q)
    (k : K (.slice (some ⟨b, o, none⟩) n c) M own) : Stp C ⟨d, .convert t t x, ty, pos, af, g⟩ fm M own K := by
  intro a w hf hs
  have hs0 := hs
  rw [hp.eq] at hs0
  obtain ⟨fz, hfz, hh⟩ := OB.ok_some (hs0.cells ⟨some b, cs, T⟩ (by simp))
  have hsh : w.shape? b = some (T, cs.length) := by simp [World.shape?, hh]
  have hrun : (execOp a.eval ⟨d, .convert t t x, ty, pos, af, g⟩).run C.P w = .ok (.value (.slice (some ⟨b, o, none⟩) n c)) (w.freeze ⟨b, cs.length, none⟩ 1) := by
    simp [execOp, hf.eval hx, convert, run_underlying (tdSlice_eq ht), run_underlying he, markStringish, hsh]
  unfold Okay
  rw [hrun]
  have hw : (w.freeze ⟨b, cs.length, none⟩ 1).heap = w.heap.modify b fun
      | .cells c elem (lo, hi) => .cells c elem (if lo == hi then (cs.length, cs.length + 1) else (min lo cs.length, max hi (cs.length + 1)))
      | o => o := by
    unfold World.freeze
    rw [if_neg (by decide)]
    rfl
  have hsize : (w.freeze ⟨b, cs.length, none⟩ 1).heap.size = w.heap.size := by rw [hw]; simp
  have hot : ∀ k, k ≠ b → (w.freeze ⟨b, cs.length, none⟩ 1).heap[k]? = w.heap[k]? := fun k hk => by
    rw [hw, Array.getElem?_modify, if_neg (Ne.symm hk)]
  have hob : OB.ok ⟨some b, cs, T⟩ (w.freeze ⟨b, cs.length, none⟩ 1) := by
    obtain ⟨lo, hi⟩ := fz
    refine OB.ok_mk (fz := if lo == hi then (cs.length, cs.length + 1) else (min lo cs.length, max hi (cs.length + 1))) (by rw [hw]; simp [Array.getElem?_modify, hh]) ?_
    unfold fzOk at hfz ⊢
    simp only at hfz
    rcases hfz with h | h
    · left; split
      · exact Nat.le_refl _
      · exact Nat.le_min.2 ⟨h, Nat.le_refl _⟩
    · simp only [Prod.mk.injEq] at h
      obtain ⟨rfl, rfl⟩ := h
      left; simp
  have := hs0.write (Repl.mk p) hob hot hsize (by unfold World.freeze; rw [if_neg (by decide)]) (by unfold World.freeze; rw [if_neg (by decide)]) (by unfold World.freeze; rw [if_neg (by decide)])
  rw [← hp.eq] at this
  exact ⟨M, own, this, k⟩

theorem s_convSB {src dst e : TypeId} {x : Operand} {s : ByteArray} (hx : ev fm x = some (.string s)) (hs' : C.P.underlying src = some .string) (hd : tdSlice C.P dst = some e) (he : C.P.underlying e = some (.int .u8))
    (k : ∀ b cap sp, SO (some b) s.size cap (flat (eK .u8) (intsB s)) sp 1 → K (.slice (base (some b) none) s.size cap) M (⟨some b, flat (eK .u8) (intsB s) ++ sp, e⟩ :: own)) : Stp C ⟨d, .convert src dst x, ty, pos, af, g⟩ fm M own K := by
  intro a w hf hs
  have h := run_bytes_of_string (P := C.P) w src dst e s hs' (tdSlice_eq hd) he
  have hge := grownCap_ge w s.size 0 e
  generalize hcap : grownCap w s.size 0 e = cap at h hge
  have hrow : bytesRow s cap = (flat (eK .u8) (intsB s) ++ List.replicate (cap - s.size) (Value.int .u8 0)).toArray := by
    apply Array.ext'
    rw [flatK_map]
    simp [bytesRow, intsB, Function.comp_def]
  have hlen : (bytesRow s cap).size = cap := by
    rw [hrow]; simp only [List.size_toArray, List.length_append, flatK_length, intsB_length, List.length_replicate]; omega
  rw [hlen] at h
  unfold Okay
  simp only [execOp, hf.eval hx, Sem.run_bind, h, Result.andThen_ok, Sem.run_pure]
  refine ⟨M, _, ?_, k w.heap.size cap (List.replicate (cap - s.size) (Value.int .u8 0)) ⟨by rw [flatK_length, intsB_length]; omega, by rw [flatK_length, intsB_length, List.length_replicate]; omega, hge, fun h => by cases h⟩⟩
  have hdr : St C.wE C.mu M own w.drew := hs.drew
  have hN := hdr.newBlock (w' := w.drew.alloc (.cells (bytesRow s cap) e)) (flat (eK .u8) (intsB s) ++ List.replicate (cap - s.size) (Value.int .u8 0)) e (by rw [← hrow]; rfl) rfl rfl rfl
  refine hN.write (w' := w.drew.alloc (.cells (bytesRow s cap) e (cap, cap + 1))) Repl.here ?_ (fun k hk => ?_) ?_ rfl rfl rfl
  · refine OB.ok_mk (fz := (cap, cap + 1)) ?_ (.inl ?_)
    · rw [← hrow]
      show (w.heap.push _)[w.heap.size]? = _
      simp
    · simp only [List.length_append, flatK_length, intsB_length, List.length_replicate]; omega
  · show (w.heap.push _)[k]? = (w.heap.push _)[k]?
    rw [Array.getElem?_push, Array.getElem?_push]
    have hk' : k ≠ w.heap.size := hk
    rw [if_neg hk', if_neg hk']
  · show (w.heap.push _).size = (w.heap.push _).size
    simp

theorem s_convBS {src dst e : TypeId} {x : Operand} {a : Option Addr} {b o n c : Nat} {xs : List Int} (hx : ev fm x = some (.slice a n c)) (hs' : tdSlice C.P src = some e) (he : C.P.underlying e = some (.int .u8)) (hd : C.P.underlying dst = some .string)
    (ha : 0 < n → a = some ⟨b, o, none⟩) (hn : xs.length = n) (hr : RdN M own b o n (flat (eK .u8) xs)) : Pur C ⟨d, .convert src dst x, ty, pos, af, g⟩ fm M own (.string (strOf xs)) := by
  intro act w hf hs
  have key : (convert src dst (.slice a n c)).run C.P w = .ok (.string (strOf xs)) w := by
    by_cases h0 : n = 0
    · subst h0
      have : xs = [] := List.eq_nil_of_length_eq_zero hn
      subst this
      rw [run_convert_bytes_string w src dst e _ 0 c (tdSlice_eq hs') he hd]
      cases a <;> simp [Conv.bytesToString, loadCells]
      all_goals rfl
    · rw [ha (by omega)]
      have := run_convert_bytes_arg (P := C.P) w src e (tdSlice_eq hs') he b o n c xs hn (fun i hi => by
        have h := rd_cells hs hr i (.int .u8 (xs.getD i 0)) (flatK_get (by omega))
        rwa [Addr.add_lit] at h) dst hd
      exact this
  simp only [execOp, hf.eval hx, Sem.run_bind, key, Result.andThen_ok, Sem.run_pure]

theorem SlA.rd {k : IntKind} {a : Option Addr} {xs : List Int} {b o n : Nat} (h : SlA M (eK k) 1 a xs b o) (hn : xs.length = n) : RdN M own b o n (flat (eK k) xs) := by
  have := SlA.all (eK_length k) h
  rw [Nat.mul_one, hn] at this
  exact RdN.view this
end
end Go.Fw
