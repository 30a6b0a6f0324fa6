/-
  No cell of these rows narrows 'for every input' (looked for: loops, veiled, ifaces, maps, wideKeys, modest, calm, conditions, laid).
  DERIVED. THE GIVEN ROWS OF THIS SEAT. 5 by the template 'for every input the law returns true; each argument reads behind the call as it read before'; 0 by the template 'total and deterministic' (their statements: YtagmoecojmlogaaTotals.lean).
  GIVEN WITH THE SEED: the statements are not yours to turn. If you find one false, say at which input.
  Laid BY PROGRAM, IN A SANDBOX (cutbox-rows.mjs): the forced cells as the released guide's own fill.sh prints them over the translation edda6b768556e91d… (all of the seat's roots in one cut). By AI agents, Wed Nov 11 2026. No macro, syntax, notation, axiom, sorry.
-/
import Derived.Test.YtagmoecojmlogaaChecked
import GoSem.Claim
import GoSem.ClaimJoined
import GoSem.ClaimMapViews
import Derived.JoinedTies
import Derived.KernelRfl
namespace Go.Proofs.Ytagmoecojmlogaa
/- THE CELL 'sum', in the pinned program and in every row, IS THE sha256 OF THE DUMP (.gsa) THAT YtagmoecojmlogaaProg.lean LOADS. Nothing in Lean hashes anything: it is a label: what it is worth is what the hold of that sum in a sandbox is worth. -/
noncomputable def Try.pinned : Pinned := { name := "ytagmoecojmlogaa", sum := "edda6b768556e91d0b57c7867f55f0f7e9e142b360c86b159d8f9efcd386c83c", checked := Try.checked }
namespace Rows
def none {H : Type} : Left H := { results := [], args := [] }

/-- 'specielaw49.SettleReceives': WHATEVER THE INPUT: true; the input reads as it did. -/
def settleReceivesSpec : ChangeSpec := { name := "settleReceives", fn := fun _ => fun
  | [d1, d2] => { results := [.lit (.bool true)], args := [d1, d2] }
  | _ => none }
def settleReceivesRow : OpenClaim := { program := "ytagmoecojmlogaa", sum := "edda6b768556e91d0b57c7867f55f0f7e9e142b360c86b159d8f9efcd386c83c", func := "specie/specielaw49.SettleReceives", spec := "settleReceives", unfollowed := true, recurses := true, apart := false }
def SettleReceivesSaid : Prop := settleReceivesRow.holds Try.pinned (OpenSpec.ofChange settleReceivesSpec)

/-- ITS FALSE NEIGHBOUR: 'it returns false'. Refute it at one input. -/
def settleReceivesWrong : ChangeSpec := { name := "settleReceives", fn := fun _ => fun
  | [d1, d2] => { results := [.lit (.bool false)], args := [d1, d2] }
  | _ => none }
def SettleReceivesWrongFalsely : Prop := settleReceivesRow.holds Try.pinned (OpenSpec.ofChange settleReceivesWrong)

/-- 'specielaw49.SettleDecides': WHATEVER THE INPUT: true; the input reads as it did. -/
def settleDecidesSpec : ChangeSpec := { name := "settleDecides", fn := fun _ => fun
  | [d] => { results := [.lit (.bool true)], args := [d] }
  | _ => none }
def settleDecidesRow : OpenClaim := { program := "ytagmoecojmlogaa", sum := "edda6b768556e91d0b57c7867f55f0f7e9e142b360c86b159d8f9efcd386c83c", func := "specie/specielaw49.SettleDecides", spec := "settleDecides", unfollowed := true, recurses := true, apart := false }
def SettleDecidesSaid : Prop := settleDecidesRow.holds Try.pinned (OpenSpec.ofChange settleDecidesSpec)

/-- ITS FALSE NEIGHBOUR: 'it returns false'. Refute it at one input. -/
def settleDecidesWrong : ChangeSpec := { name := "settleDecides", fn := fun _ => fun
  | [d] => { results := [.lit (.bool false)], args := [d] }
  | _ => none }
def SettleDecidesWrongFalsely : Prop := settleDecidesRow.holds Try.pinned (OpenSpec.ofChange settleDecidesWrong)

/-- 'specielaw49.SettleBegins': WHATEVER THE INPUT: true; the input reads as it did. -/
def settleBeginsSpec : ChangeSpec := { name := "settleBegins", fn := fun _ => fun
  | [d] => { results := [.lit (.bool true)], args := [d] }
  | _ => none }
def settleBeginsRow : OpenClaim := { program := "ytagmoecojmlogaa", sum := "edda6b768556e91d0b57c7867f55f0f7e9e142b360c86b159d8f9efcd386c83c", func := "specie/specielaw49.SettleBegins", spec := "settleBegins", unfollowed := true, recurses := true, apart := false }
def SettleBeginsSaid : Prop := settleBeginsRow.holds Try.pinned (OpenSpec.ofChange settleBeginsSpec)

/-- ITS FALSE NEIGHBOUR: 'it returns false'. Refute it at one input. -/
def settleBeginsWrong : ChangeSpec := { name := "settleBegins", fn := fun _ => fun
  | [d] => { results := [.lit (.bool false)], args := [d] }
  | _ => none }
def SettleBeginsWrongFalsely : Prop := settleBeginsRow.holds Try.pinned (OpenSpec.ofChange settleBeginsWrong)

/-- 'specielaw49.SettleAgrees': WHATEVER THE INPUT: true; the input reads as it did. -/
def settleAgreesSpec : ChangeSpec := { name := "settleAgrees", fn := fun _ => fun
  | [d1, d2, d3, d4, d5] => { results := [.lit (.bool true)], args := [d1, d2, d3, d4, d5] }
  | _ => none }
def settleAgreesRow : OpenClaim := { program := "ytagmoecojmlogaa", sum := "edda6b768556e91d0b57c7867f55f0f7e9e142b360c86b159d8f9efcd386c83c", func := "specie/specielaw49.SettleAgrees", spec := "settleAgrees", unfollowed := true, recurses := true, apart := false }
def SettleAgreesSaid : Prop := settleAgreesRow.holds Try.pinned (OpenSpec.ofChange settleAgreesSpec)

/-- ITS FALSE NEIGHBOUR: 'it returns false'. Refute it at one input. -/
def settleAgreesWrong : ChangeSpec := { name := "settleAgrees", fn := fun _ => fun
  | [d1, d2, d3, d4, d5] => { results := [.lit (.bool false)], args := [d1, d2, d3, d4, d5] }
  | _ => none }
def SettleAgreesWrongFalsely : Prop := settleAgreesRow.holds Try.pinned (OpenSpec.ofChange settleAgreesWrong)

/-- 'specielaw49.SettleEnds': WHATEVER THE INPUT: true; the input reads as it did. -/
def settleEndsSpec : ChangeSpec := { name := "settleEnds", fn := fun _ => fun
  | [d1, d2, d3, d4, d5] => { results := [.lit (.bool true)], args := [d1, d2, d3, d4, d5] }
  | _ => none }
def settleEndsRow : OpenClaim := { program := "ytagmoecojmlogaa", sum := "edda6b768556e91d0b57c7867f55f0f7e9e142b360c86b159d8f9efcd386c83c", func := "specie/specielaw49.SettleEnds", spec := "settleEnds", unfollowed := true, recurses := true, apart := false }
def SettleEndsSaid : Prop := settleEndsRow.holds Try.pinned (OpenSpec.ofChange settleEndsSpec)

/-- ITS FALSE NEIGHBOUR: 'it returns false'. Refute it at one input. -/
def settleEndsWrong : ChangeSpec := { name := "settleEnds", fn := fun _ => fun
  | [d1, d2, d3, d4, d5] => { results := [.lit (.bool false)], args := [d1, d2, d3, d4, d5] }
  | _ => none }
def SettleEndsWrongFalsely : Prop := settleEndsRow.holds Try.pinned (OpenSpec.ofChange settleEndsWrong)

/- THE SECOND FORM. 'bulk': how many values and letters a reading holds, each counted each time it is reached (what is shared counts as often as it is met; a slice's spare places count too). A statement '..UptoSaid' is the law's where the arguments, and the package variables that the reading takes, are together of bulk at most 1048576: NARROWER than '..Said'. Prove '..Said' where nothing that the law and all that it calls make is longer than what came in: it says more and counts as full. Else prove '..UptoSaid'. A law counts once. -/
mutual
def uptoBulk {H : Type} : DataW H → Nat
  | .lit (.string bytes) => bytes.length + 1
  | .lit _ => 1
  | .nil => 1
  | .ptr d => uptoBulk d + 1
  | .slice elems spare => uptoBulkAll elems + uptoBulkAll spare + 1
  | .agg parts => uptoBulkAll parts + 1
  | .iface _ d => uptoBulk d + 1
  | .map entries => uptoBulkEntries entries + 1
  | .held _ => 1
def uptoBulkAll {H : Type} : List (DataW H) → Nat
  | [] => 0
  | d :: r => uptoBulk d + uptoBulkAll r
def uptoBulkEntries {H : Type} : List (Lit × DataW H) → Nat
  | [] => 0
  | x :: r => uptoBulkEntry x + uptoBulkEntries r
def uptoBulkEntry {H : Type} : Lit × DataW H → Nat
  | (.string bytes, d) => bytes.length + uptoBulk d + 1
  | (_, d) => uptoBulk d + 1
 end
def uptoSmall : (H : Type) → List (DataW H) → Bool := fun _ ds => decide (uptoBulkAll ds ≤ 1048576)
def OpenSpec.upto (s : _root_.Go.ChangeSpec) : _root_.Go.OpenSpec := { _root_.Go.OpenSpec.ofChange s with cond := some uptoSmall }

/-- 'specielaw49.SettleReceives', WHERE WHAT IT READS IS OF BULK AT MOST 1048576: true; the input reads as it did. -/
def settleReceivesUptoRow : OpenClaim := { program := "ytagmoecojmlogaa", sum := "edda6b768556e91d0b57c7867f55f0f7e9e142b360c86b159d8f9efcd386c83c", func := "specie/specielaw49.SettleReceives", spec := "settleReceives", unfollowed := true, recurses := true, apart := false, narrowed := true }
def SettleReceivesUptoSaid : Prop := settleReceivesUptoRow.holds Try.pinned (OpenSpec.upto settleReceivesSpec)

/-- 'specielaw49.SettleDecides', WHERE WHAT IT READS IS OF BULK AT MOST 1048576: true; the input reads as it did. -/
def settleDecidesUptoRow : OpenClaim := { program := "ytagmoecojmlogaa", sum := "edda6b768556e91d0b57c7867f55f0f7e9e142b360c86b159d8f9efcd386c83c", func := "specie/specielaw49.SettleDecides", spec := "settleDecides", unfollowed := true, recurses := true, apart := false, narrowed := true }
def SettleDecidesUptoSaid : Prop := settleDecidesUptoRow.holds Try.pinned (OpenSpec.upto settleDecidesSpec)

/-- 'specielaw49.SettleBegins', WHERE WHAT IT READS IS OF BULK AT MOST 1048576: true; the input reads as it did. -/
def settleBeginsUptoRow : OpenClaim := { program := "ytagmoecojmlogaa", sum := "edda6b768556e91d0b57c7867f55f0f7e9e142b360c86b159d8f9efcd386c83c", func := "specie/specielaw49.SettleBegins", spec := "settleBegins", unfollowed := true, recurses := true, apart := false, narrowed := true }
def SettleBeginsUptoSaid : Prop := settleBeginsUptoRow.holds Try.pinned (OpenSpec.upto settleBeginsSpec)

/-- 'specielaw49.SettleAgrees', WHERE WHAT IT READS IS OF BULK AT MOST 1048576: true; the input reads as it did. -/
def settleAgreesUptoRow : OpenClaim := { program := "ytagmoecojmlogaa", sum := "edda6b768556e91d0b57c7867f55f0f7e9e142b360c86b159d8f9efcd386c83c", func := "specie/specielaw49.SettleAgrees", spec := "settleAgrees", unfollowed := true, recurses := true, apart := false, narrowed := true }
def SettleAgreesUptoSaid : Prop := settleAgreesUptoRow.holds Try.pinned (OpenSpec.upto settleAgreesSpec)

/-- 'specielaw49.SettleEnds', WHERE WHAT IT READS IS OF BULK AT MOST 1048576: true; the input reads as it did. -/
def settleEndsUptoRow : OpenClaim := { program := "ytagmoecojmlogaa", sum := "edda6b768556e91d0b57c7867f55f0f7e9e142b360c86b159d8f9efcd386c83c", func := "specie/specielaw49.SettleEnds", spec := "settleEnds", unfollowed := true, recurses := true, apart := false, narrowed := true }
def SettleEndsUptoSaid : Prop := settleEndsUptoRow.holds Try.pinned (OpenSpec.upto settleEndsSpec)

end Rows
end Go.Proofs.Ytagmoecojmlogaa
