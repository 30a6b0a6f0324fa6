/-
  NARROWER THAN 'FOR EVERY INPUT', by the rows' own cells (each row's printed sentence says how): DivideCovers: laid · DivideFewest: laid · DivideHalves: laid · DivideExact: laid · DivideStates: laid · DivideNodes: laid · DivideAncestors: laid.
  DERIVED. THE GIVEN ROWS OF THIS SEAT. 7 by the template 'for every input the law returns true; each argument reads behind the call as it read before'; 0 by the template 'total and deterministic' (their statements: YtkmpiamfgmdihaaDoorTotals.lean).
  GIVEN WITH THE SEED: the statements are not yours to turn. If you find one false, say at which input.
  Laid BY PROGRAM, IN A SANDBOX (cutbox-rows.mjs): the forced cells as the released guide's own fill.sh prints them over the translation a6e7e37546128cf6… (all of the seat's roots in one cut). By AI agents, Wed Nov 11 2026. No macro, syntax, notation, axiom, sorry.
-/
import Derived.Test.YtkmpiamfgmdihaaDoorChecked
import GoSem.Claim
import GoSem.ClaimJoined
import GoSem.ClaimMapViews
import Derived.JoinedTies
import Derived.KernelRfl
namespace Go.Proofs.YtkmpiamfgmdihaaDoor
/- THE CELL 'sum', in the pinned program and in every row, IS THE sha256 OF THE DUMP (.gsa) THAT YtkmpiamfgmdihaaDoorProg.lean LOADS. Nothing in Lean hashes anything: it is a label: what it is worth is what the hold of that sum in a sandbox is worth. -/
noncomputable def Tryd.pinned : Pinned := { name := "ytkmpiamfgmdihaadoor", sum := "a6e7e37546128cf66291af7c6e2b7d17335cf00cc3227bd5f06680b3d715e20b", checked := Tryd.checked }
namespace Rows
def none {H : Type} : Left H := { results := [], args := [] }

/- WHAT THE LISTED PACKAGE-LEVEL VARIABLES READ AS WHEN THE CALL BEGINS. Each datum BY PROGRAM (the guide's laid-datum.mjs) off the statement by which the dump's own 'gosem.cut.vars' lays the variable. In a bare row this is a premise. The card (YtkmpiamfgmdihaaDoorCards.lean) ties it to the program's text. -/
def laid_math_bits_deBruijn32tab {H : Type} : DataW H := .agg [.lit (.int .u8 0), .lit (.int .u8 1), .lit (.int .u8 28), .lit (.int .u8 2), .lit (.int .u8 29), .lit (.int .u8 14), .lit (.int .u8 24), .lit (.int .u8 3), .lit (.int .u8 30), .lit (.int .u8 22), .lit (.int .u8 20), .lit (.int .u8 15), .lit (.int .u8 25), .lit (.int .u8 17), .lit (.int .u8 4), .lit (.int .u8 8), .lit (.int .u8 31), .lit (.int .u8 27), .lit (.int .u8 13), .lit (.int .u8 23), .lit (.int .u8 21), .lit (.int .u8 19), .lit (.int .u8 16), .lit (.int .u8 7), .lit (.int .u8 26), .lit (.int .u8 12), .lit (.int .u8 18), .lit (.int .u8 6), .lit (.int .u8 11), .lit (.int .u8 5), .lit (.int .u8 10), .lit (.int .u8 9)]
def laid_math_bits_deBruijn64tab {H : Type} : DataW H := .agg [.lit (.int .u8 0), .lit (.int .u8 1), .lit (.int .u8 56), .lit (.int .u8 2), .lit (.int .u8 57), .lit (.int .u8 49), .lit (.int .u8 28), .lit (.int .u8 3), .lit (.int .u8 61), .lit (.int .u8 58), .lit (.int .u8 42), .lit (.int .u8 50), .lit (.int .u8 38), .lit (.int .u8 29), .lit (.int .u8 17), .lit (.int .u8 4), .lit (.int .u8 62), .lit (.int .u8 47), .lit (.int .u8 59), .lit (.int .u8 36), .lit (.int .u8 45), .lit (.int .u8 43), .lit (.int .u8 51), .lit (.int .u8 22), .lit (.int .u8 53), .lit (.int .u8 39), .lit (.int .u8 33), .lit (.int .u8 30), .lit (.int .u8 24), .lit (.int .u8 18), .lit (.int .u8 12), .lit (.int .u8 5), .lit (.int .u8 63), .lit (.int .u8 55), .lit (.int .u8 48), .lit (.int .u8 27), .lit (.int .u8 60), .lit (.int .u8 41), .lit (.int .u8 37), .lit (.int .u8 16), .lit (.int .u8 46), .lit (.int .u8 35), .lit (.int .u8 44), .lit (.int .u8 21), .lit (.int .u8 52), .lit (.int .u8 32), .lit (.int .u8 23), .lit (.int .u8 11), .lit (.int .u8 54), .lit (.int .u8 26), .lit (.int .u8 40), .lit (.int .u8 15), .lit (.int .u8 34), .lit (.int .u8 20), .lit (.int .u8 31), .lit (.int .u8 10), .lit (.int .u8 25), .lit (.int .u8 14), .lit (.int .u8 19), .lit (.int .u8 9), .lit (.int .u8 13), .lit (.int .u8 8), .lit (.int .u8 7), .lit (.int .u8 6)]

/-- 'specielaw34.DivideCovers': WHATEVER THE INPUT: true; the input reads as it did. -/
def divideCoversSpec : ChangeSpec := { name := "divideCovers", fn := fun _ => fun
  | [d1, d2, d3, d4, d5] => { results := [.lit (.bool true)], args := [d1, d2, d3, d4, d5] }
  | _ => none }
def divideCoversRow : OpenClaim := { program := "ytkmpiamfgmdihaadoor", sum := "a6e7e37546128cf66291af7c6e2b7d17335cf00cc3227bd5f06680b3d715e20b", func := "specie/specielaw34.DivideCovers", spec := "divideCovers", named := ["math/bits.deBruijn32tab", "math/bits.deBruijn64tab"], apart := false, laid := [("math/bits.deBruijn32tab", laid_math_bits_deBruijn32tab), ("math/bits.deBruijn64tab", laid_math_bits_deBruijn64tab)] }
def DivideCoversSaid : Prop := divideCoversRow.holds Tryd.pinned (OpenSpec.ofChange divideCoversSpec)

/-- ITS FALSE NEIGHBOUR: 'it returns false'. Refute it at one input. -/
def divideCoversWrong : ChangeSpec := { name := "divideCovers", fn := fun _ => fun
  | [d1, d2, d3, d4, d5] => { results := [.lit (.bool false)], args := [d1, d2, d3, d4, d5] }
  | _ => none }
def DivideCoversWrongFalsely : Prop := divideCoversRow.holds Tryd.pinned (OpenSpec.ofChange divideCoversWrong)

/-- 'specielaw34.DivideFewest': WHATEVER THE INPUT: true; the input reads as it did. -/
def divideFewestSpec : ChangeSpec := { name := "divideFewest", fn := fun _ => fun
  | [d1, d2, d3, d4] => { results := [.lit (.bool true)], args := [d1, d2, d3, d4] }
  | _ => none }
def divideFewestRow : OpenClaim := { program := "ytkmpiamfgmdihaadoor", sum := "a6e7e37546128cf66291af7c6e2b7d17335cf00cc3227bd5f06680b3d715e20b", func := "specie/specielaw34.DivideFewest", spec := "divideFewest", recurses := true, named := ["math/bits.deBruijn32tab", "math/bits.deBruijn64tab"], apart := false, laid := [("math/bits.deBruijn32tab", laid_math_bits_deBruijn32tab), ("math/bits.deBruijn64tab", laid_math_bits_deBruijn64tab)] }
def DivideFewestSaid : Prop := divideFewestRow.holds Tryd.pinned (OpenSpec.ofChange divideFewestSpec)

/-- ITS FALSE NEIGHBOUR: 'it returns false'. Refute it at one input. -/
def divideFewestWrong : ChangeSpec := { name := "divideFewest", fn := fun _ => fun
  | [d1, d2, d3, d4] => { results := [.lit (.bool false)], args := [d1, d2, d3, d4] }
  | _ => none }
def DivideFewestWrongFalsely : Prop := divideFewestRow.holds Tryd.pinned (OpenSpec.ofChange divideFewestWrong)

/-- 'specielaw34.DivideHalves': WHATEVER THE INPUT: true; the input reads as it did. -/
def divideHalvesSpec : ChangeSpec := { name := "divideHalves", fn := fun _ => fun
  | [d] => { results := [.lit (.bool true)], args := [d] }
  | _ => none }
def divideHalvesRow : OpenClaim := { program := "ytkmpiamfgmdihaadoor", sum := "a6e7e37546128cf66291af7c6e2b7d17335cf00cc3227bd5f06680b3d715e20b", func := "specie/specielaw34.DivideHalves", spec := "divideHalves", named := ["math/bits.deBruijn32tab", "math/bits.deBruijn64tab"], apart := false, laid := [("math/bits.deBruijn32tab", laid_math_bits_deBruijn32tab), ("math/bits.deBruijn64tab", laid_math_bits_deBruijn64tab)] }
def DivideHalvesSaid : Prop := divideHalvesRow.holds Tryd.pinned (OpenSpec.ofChange divideHalvesSpec)

/-- ITS FALSE NEIGHBOUR: 'it returns false'. Refute it at one input. -/
def divideHalvesWrong : ChangeSpec := { name := "divideHalves", fn := fun _ => fun
  | [d] => { results := [.lit (.bool false)], args := [d] }
  | _ => none }
def DivideHalvesWrongFalsely : Prop := divideHalvesRow.holds Tryd.pinned (OpenSpec.ofChange divideHalvesWrong)

/-- 'specielaw34.DivideExact': WHATEVER THE INPUT: true; the input reads as it did. -/
def divideExactSpec : ChangeSpec := { name := "divideExact", fn := fun _ => fun
  | [d1, d2] => { results := [.lit (.bool true)], args := [d1, d2] }
  | _ => none }
def divideExactRow : OpenClaim := { program := "ytkmpiamfgmdihaadoor", sum := "a6e7e37546128cf66291af7c6e2b7d17335cf00cc3227bd5f06680b3d715e20b", func := "specie/specielaw34.DivideExact", spec := "divideExact", named := ["math/bits.deBruijn32tab", "math/bits.deBruijn64tab"], apart := false, laid := [("math/bits.deBruijn32tab", laid_math_bits_deBruijn32tab), ("math/bits.deBruijn64tab", laid_math_bits_deBruijn64tab)] }
def DivideExactSaid : Prop := divideExactRow.holds Tryd.pinned (OpenSpec.ofChange divideExactSpec)

/-- ITS FALSE NEIGHBOUR: 'it returns false'. Refute it at one input. -/
def divideExactWrong : ChangeSpec := { name := "divideExact", fn := fun _ => fun
  | [d1, d2] => { results := [.lit (.bool false)], args := [d1, d2] }
  | _ => none }
def DivideExactWrongFalsely : Prop := divideExactRow.holds Tryd.pinned (OpenSpec.ofChange divideExactWrong)

/-- 'specielaw34.DivideStates': WHATEVER THE INPUT: true; the input reads as it did. -/
def divideStatesSpec : ChangeSpec := { name := "divideStates", fn := fun _ => fun
  | [d1, d2] => { results := [.lit (.bool true)], args := [d1, d2] }
  | _ => none }
def divideStatesRow : OpenClaim := { program := "ytkmpiamfgmdihaadoor", sum := "a6e7e37546128cf66291af7c6e2b7d17335cf00cc3227bd5f06680b3d715e20b", func := "specie/specielaw34.DivideStates", spec := "divideStates", named := ["math/bits.deBruijn32tab", "math/bits.deBruijn64tab"], apart := false, laid := [("math/bits.deBruijn32tab", laid_math_bits_deBruijn32tab), ("math/bits.deBruijn64tab", laid_math_bits_deBruijn64tab)] }
def DivideStatesSaid : Prop := divideStatesRow.holds Tryd.pinned (OpenSpec.ofChange divideStatesSpec)

/-- ITS FALSE NEIGHBOUR: 'it returns false'. Refute it at one input. -/
def divideStatesWrong : ChangeSpec := { name := "divideStates", fn := fun _ => fun
  | [d1, d2] => { results := [.lit (.bool false)], args := [d1, d2] }
  | _ => none }
def DivideStatesWrongFalsely : Prop := divideStatesRow.holds Tryd.pinned (OpenSpec.ofChange divideStatesWrong)

/-- 'specielaw34.DivideNodes': WHATEVER THE INPUT: true; the input reads as it did. -/
def divideNodesSpec : ChangeSpec := { name := "divideNodes", fn := fun _ => fun
  | [d1, d2, d3] => { results := [.lit (.bool true)], args := [d1, d2, d3] }
  | _ => none }
def divideNodesRow : OpenClaim := { program := "ytkmpiamfgmdihaadoor", sum := "a6e7e37546128cf66291af7c6e2b7d17335cf00cc3227bd5f06680b3d715e20b", func := "specie/specielaw34.DivideNodes", spec := "divideNodes", named := ["math/bits.deBruijn32tab", "math/bits.deBruijn64tab"], apart := false, laid := [("math/bits.deBruijn32tab", laid_math_bits_deBruijn32tab), ("math/bits.deBruijn64tab", laid_math_bits_deBruijn64tab)] }
def DivideNodesSaid : Prop := divideNodesRow.holds Tryd.pinned (OpenSpec.ofChange divideNodesSpec)

/-- ITS FALSE NEIGHBOUR: 'it returns false'. Refute it at one input. -/
def divideNodesWrong : ChangeSpec := { name := "divideNodes", fn := fun _ => fun
  | [d1, d2, d3] => { results := [.lit (.bool false)], args := [d1, d2, d3] }
  | _ => none }
def DivideNodesWrongFalsely : Prop := divideNodesRow.holds Tryd.pinned (OpenSpec.ofChange divideNodesWrong)

/-- 'specielaw34.DivideAncestors': WHATEVER THE INPUT: true; the input reads as it did. -/
def divideAncestorsSpec : ChangeSpec := { name := "divideAncestors", fn := fun _ => fun
  | [d1, d2, d3] => { results := [.lit (.bool true)], args := [d1, d2, d3] }
  | _ => none }
def divideAncestorsRow : OpenClaim := { program := "ytkmpiamfgmdihaadoor", sum := "a6e7e37546128cf66291af7c6e2b7d17335cf00cc3227bd5f06680b3d715e20b", func := "specie/specielaw34.DivideAncestors", spec := "divideAncestors", unfollowed := true, recurses := true, named := ["math/bits.deBruijn32tab", "math/bits.deBruijn64tab"], apart := false, laid := [("math/bits.deBruijn32tab", laid_math_bits_deBruijn32tab), ("math/bits.deBruijn64tab", laid_math_bits_deBruijn64tab)] }
def DivideAncestorsSaid : Prop := divideAncestorsRow.holds Tryd.pinned (OpenSpec.ofChange divideAncestorsSpec)

/-- ITS FALSE NEIGHBOUR: 'it returns false'. Refute it at one input. -/
def divideAncestorsWrong : ChangeSpec := { name := "divideAncestors", fn := fun _ => fun
  | [d1, d2, d3] => { results := [.lit (.bool false)], args := [d1, d2, d3] }
  | _ => none }
def DivideAncestorsWrongFalsely : Prop := divideAncestorsRow.holds Tryd.pinned (OpenSpec.ofChange divideAncestorsWrong)

/- THE SECOND FORM. 'bulk': how many values and letters a reading holds, each counted each time it is reached (what is shared counts as often as it is met; a slice's spare places count too). A statement '..UptoSaid' is the law's where the arguments, and the package variables that the reading takes, are together of bulk at most 1048576: NARROWER than '..Said'. Prove '..Said' where nothing that the law and all that it calls make is longer than what came in: it says more and counts as full. Else prove '..UptoSaid'. A law counts once. -/
mutual
def uptoBulk {H : Type} : DataW H → Nat
  | .lit (.string bytes) => bytes.length + 1
  | .lit _ => 1
  | .nil => 1
  | .ptr d => uptoBulk d + 1
  | .slice elems spare => uptoBulkAll elems + uptoBulkAll spare + 1
  | .agg parts => uptoBulkAll parts + 1
  | .iface _ d => uptoBulk d + 1
  | .map entries => uptoBulkEntries entries + 1
  | .held _ => 1
def uptoBulkAll {H : Type} : List (DataW H) → Nat
  | [] => 0
  | d :: r => uptoBulk d + uptoBulkAll r
def uptoBulkEntries {H : Type} : List (Lit × DataW H) → Nat
  | [] => 0
  | x :: r => uptoBulkEntry x + uptoBulkEntries r
def uptoBulkEntry {H : Type} : Lit × DataW H → Nat
  | (.string bytes, d) => bytes.length + uptoBulk d + 1
  | (_, d) => uptoBulk d + 1
 end
def uptoSmall : (H : Type) → List (DataW H) → Bool := fun _ ds => decide (uptoBulkAll ds ≤ 1048576)
def OpenSpec.upto (s : _root_.Go.ChangeSpec) : _root_.Go.OpenSpec := { _root_.Go.OpenSpec.ofChange s with cond := some uptoSmall }

/-- 'specielaw34.DivideCovers', WHERE WHAT IT READS IS OF BULK AT MOST 1048576: true; the input reads as it did. -/
def divideCoversUptoRow : OpenClaim := { program := "ytkmpiamfgmdihaadoor", sum := "a6e7e37546128cf66291af7c6e2b7d17335cf00cc3227bd5f06680b3d715e20b", func := "specie/specielaw34.DivideCovers", spec := "divideCovers", named := ["math/bits.deBruijn32tab", "math/bits.deBruijn64tab"], apart := false, laid := [("math/bits.deBruijn32tab", laid_math_bits_deBruijn32tab), ("math/bits.deBruijn64tab", laid_math_bits_deBruijn64tab)], narrowed := true }
def DivideCoversUptoSaid : Prop := divideCoversUptoRow.holds Tryd.pinned (OpenSpec.upto divideCoversSpec)

/-- 'specielaw34.DivideFewest', WHERE WHAT IT READS IS OF BULK AT MOST 1048576: true; the input reads as it did. -/
def divideFewestUptoRow : OpenClaim := { program := "ytkmpiamfgmdihaadoor", sum := "a6e7e37546128cf66291af7c6e2b7d17335cf00cc3227bd5f06680b3d715e20b", func := "specie/specielaw34.DivideFewest", spec := "divideFewest", recurses := true, named := ["math/bits.deBruijn32tab", "math/bits.deBruijn64tab"], apart := false, laid := [("math/bits.deBruijn32tab", laid_math_bits_deBruijn32tab), ("math/bits.deBruijn64tab", laid_math_bits_deBruijn64tab)], narrowed := true }
def DivideFewestUptoSaid : Prop := divideFewestUptoRow.holds Tryd.pinned (OpenSpec.upto divideFewestSpec)

/-- 'specielaw34.DivideHalves', WHERE WHAT IT READS IS OF BULK AT MOST 1048576: true; the input reads as it did. -/
def divideHalvesUptoRow : OpenClaim := { program := "ytkmpiamfgmdihaadoor", sum := "a6e7e37546128cf66291af7c6e2b7d17335cf00cc3227bd5f06680b3d715e20b", func := "specie/specielaw34.DivideHalves", spec := "divideHalves", named := ["math/bits.deBruijn32tab", "math/bits.deBruijn64tab"], apart := false, laid := [("math/bits.deBruijn32tab", laid_math_bits_deBruijn32tab), ("math/bits.deBruijn64tab", laid_math_bits_deBruijn64tab)], narrowed := true }
def DivideHalvesUptoSaid : Prop := divideHalvesUptoRow.holds Tryd.pinned (OpenSpec.upto divideHalvesSpec)

/-- 'specielaw34.DivideExact', WHERE WHAT IT READS IS OF BULK AT MOST 1048576: true; the input reads as it did. -/
def divideExactUptoRow : OpenClaim := { program := "ytkmpiamfgmdihaadoor", sum := "a6e7e37546128cf66291af7c6e2b7d17335cf00cc3227bd5f06680b3d715e20b", func := "specie/specielaw34.DivideExact", spec := "divideExact", named := ["math/bits.deBruijn32tab", "math/bits.deBruijn64tab"], apart := false, laid := [("math/bits.deBruijn32tab", laid_math_bits_deBruijn32tab), ("math/bits.deBruijn64tab", laid_math_bits_deBruijn64tab)], narrowed := true }
def DivideExactUptoSaid : Prop := divideExactUptoRow.holds Tryd.pinned (OpenSpec.upto divideExactSpec)

/-- 'specielaw34.DivideStates', WHERE WHAT IT READS IS OF BULK AT MOST 1048576: true; the input reads as it did. -/
def divideStatesUptoRow : OpenClaim := { program := "ytkmpiamfgmdihaadoor", sum := "a6e7e37546128cf66291af7c6e2b7d17335cf00cc3227bd5f06680b3d715e20b", func := "specie/specielaw34.DivideStates", spec := "divideStates", named := ["math/bits.deBruijn32tab", "math/bits.deBruijn64tab"], apart := false, laid := [("math/bits.deBruijn32tab", laid_math_bits_deBruijn32tab), ("math/bits.deBruijn64tab", laid_math_bits_deBruijn64tab)], narrowed := true }
def DivideStatesUptoSaid : Prop := divideStatesUptoRow.holds Tryd.pinned (OpenSpec.upto divideStatesSpec)

/-- 'specielaw34.DivideNodes', WHERE WHAT IT READS IS OF BULK AT MOST 1048576: true; the input reads as it did. -/
def divideNodesUptoRow : OpenClaim := { program := "ytkmpiamfgmdihaadoor", sum := "a6e7e37546128cf66291af7c6e2b7d17335cf00cc3227bd5f06680b3d715e20b", func := "specie/specielaw34.DivideNodes", spec := "divideNodes", named := ["math/bits.deBruijn32tab", "math/bits.deBruijn64tab"], apart := false, laid := [("math/bits.deBruijn32tab", laid_math_bits_deBruijn32tab), ("math/bits.deBruijn64tab", laid_math_bits_deBruijn64tab)], narrowed := true }
def DivideNodesUptoSaid : Prop := divideNodesUptoRow.holds Tryd.pinned (OpenSpec.upto divideNodesSpec)

/-- 'specielaw34.DivideAncestors', WHERE WHAT IT READS IS OF BULK AT MOST 1048576: true; the input reads as it did. -/
def divideAncestorsUptoRow : OpenClaim := { program := "ytkmpiamfgmdihaadoor", sum := "a6e7e37546128cf66291af7c6e2b7d17335cf00cc3227bd5f06680b3d715e20b", func := "specie/specielaw34.DivideAncestors", spec := "divideAncestors", unfollowed := true, recurses := true, named := ["math/bits.deBruijn32tab", "math/bits.deBruijn64tab"], apart := false, laid := [("math/bits.deBruijn32tab", laid_math_bits_deBruijn32tab), ("math/bits.deBruijn64tab", laid_math_bits_deBruijn64tab)], narrowed := true }
def DivideAncestorsUptoSaid : Prop := divideAncestorsUptoRow.holds Tryd.pinned (OpenSpec.upto divideAncestorsSpec)

end Rows
end Go.Proofs.YtkmpiamfgmdihaaDoor
