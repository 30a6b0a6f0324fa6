/-
  Texts joined: Fw16.
-/
import Derived.Test.YtkkfgeekdaalmaaDoorYgi
import Derived.Laws.IdiomStrings
import Derived.Laws.BytesArg
set_option linter.unusedSimpArgs false
set_option linter.unusedVariables false
namespace Go.Fw
open Go Go.RowKit
def intsB (s : ByteArray) : List Int := s.data.toList.map fun b => (b.toNat : Int)
theorem intsB_strOf {xs : List Int} (h : ∀ x ∈ xs, 0 ≤ x ∧ x ≤ 255) : intsB (strOf xs) = xs := by
  unfold strOf bytesOf intsB
  simp only [List.map_map]
  conv => rhs; rw [← List.map_id xs]
  apply List.map_congr_left
  intro x hx
  have := h x hx
  simp only [Function.comp, id]
  have h3 : x.toNat < 256 := by omega
  rw [UInt8.toNat_ofNat_of_lt' h3]
  omega
theorem strOf_size (xs : List Int) : (strOf xs).size = xs.length := by simp [strOf, bytesOf, ByteArray.size]
section
variable {C : Pr} {fm : FM} {M : View} {own : List OB} {K : Value → View → List OB → Prop} {d : Option Nat} {ty : TypeId} {pos : String} {af : Array Edge} {g : Option (Nat × Bool)}
theorem s_convBS {src dst e : TypeId} {x : Operand} {a : Option Addr} {b o n c : Nat} {xs : List Int} (hx : ev fm x = some (.slice a n c)) (hs' : tdSlice C.P src = some e) (he : C.P.underlying e = some (.int .u8)) (hd : C.P.underlying dst = some .string)
    (ha : 0 < n → a = some ⟨b, o, none⟩) (hn : xs.length = n) (hr : RdN M own b o n (flat (eK .u8) xs)) : Pur C ⟨d, .convert src dst x, ty, pos, af, g⟩ fm M own (.string (strOf xs)) := by
  intro act w hf hs
  have key : (convert src dst (.slice a n c)).run C.P w = .ok (.string (strOf xs)) w := by
    by_cases h0 : n = 0
    · subst h0
      have : xs = [] := List.eq_nil_of_length_eq_zero hn
      subst this
      rw [run_convert_bytes_string w src dst e _ 0 c (tdSlice_eq hs') he hd]
      cases a <;> simp [Conv.bytesToString, loadCells]
      all_goals rfl
    · rw [ha (by omega)]
      have := run_convert_bytes_arg (P := C.P) w src e (tdSlice_eq hs') he b o n c xs hn (fun i hi => by
        have h := rd_cells hs hr i (.int .u8 (xs.getD i 0)) (flatK_get (by omega))
        rwa [Addr.add_lit] at h) dst hd
      exact this
  simp only [execOp, hf.eval hx, Sem.run_bind, key, Result.andThen_ok, Sem.run_pure]
theorem SlA.rd {k : IntKind} {a : Option Addr} {xs : List Int} {b o n : Nat} (h : SlA M (eK k) 1 a xs b o) (hn : xs.length = n) : RdN M own b o n (flat (eK k) xs) := by
  have := SlA.all (eK_length k) h
  rw [Nat.mul_one, hn] at this
  exact RdN.view this
end
end Go.Fw
