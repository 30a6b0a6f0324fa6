/-
  No cell of these rows narrows 'for every input' (looked for: loops, veiled, ifaces, maps, wideKeys, modest, calm, conditions, laid).
  DERIVED. THE GIVEN ROWS OF THIS SEAT. 5 by the template 'for every input the law returns true; each argument reads behind the call as it read before'; 0 by the template 'total and deterministic' (their statements: YtidjoikheklpiaaTotals.lean).
  GIVEN WITH THE SEED: the statements are not yours to turn. If you find one false, say at which input.
  Laid BY PROGRAM, IN A SANDBOX (cutbox-rows.mjs): the forced cells as the released guide's own fill.sh prints them over the translation 15bba4f550031610… (all of the seat's roots in one cut). By AI agents, Wed Nov 11 2026. No macro, syntax, notation, axiom, sorry.
-/
import Derived.Test.YtidjoikheklpiaaChecked
import GoSem.Claim
import GoSem.ClaimJoined
import GoSem.ClaimMapViews
import Derived.JoinedTies
import Derived.KernelRfl
namespace Go.Proofs.Ytidjoikheklpiaa
/- THE CELL 'sum', in the pinned program and in every row, IS THE sha256 OF THE DUMP (.gsa) THAT YtidjoikheklpiaaProg.lean LOADS. Nothing in Lean hashes anything: it is a label: what it is worth is what the hold of that sum in a sandbox is worth. -/
noncomputable def Try.pinned : Pinned := { name := "ytidjoikheklpiaa", sum := "15bba4f55003161030d388bbeae0e3ff00a2243cc89fe7d2910d64c4ebcc00fe", checked := Try.checked }
namespace Rows
def none {H : Type} : Left H := { results := [], args := [] }

/-- 'specielaw48.NettingTransfers': WHATEVER THE INPUT: true; the input reads as it did. -/
def nettingTransfersSpec : ChangeSpec := { name := "nettingTransfers", fn := fun _ => fun
  | [d1, d2] => { results := [.lit (.bool true)], args := [d1, d2] }
  | _ => none }
def nettingTransfersRow : OpenClaim := { program := "ytidjoikheklpiaa", sum := "15bba4f55003161030d388bbeae0e3ff00a2243cc89fe7d2910d64c4ebcc00fe", func := "specie/specielaw48.NettingTransfers", spec := "nettingTransfers", unfollowed := true, recurses := true, apart := false }
def NettingTransfersSaid : Prop := nettingTransfersRow.holds Try.pinned (OpenSpec.ofChange nettingTransfersSpec)

/-- ITS FALSE NEIGHBOUR: 'it returns false'. Refute it at one input. -/
def nettingTransfersWrong : ChangeSpec := { name := "nettingTransfers", fn := fun _ => fun
  | [d1, d2] => { results := [.lit (.bool false)], args := [d1, d2] }
  | _ => none }
def NettingTransfersWrongFalsely : Prop := nettingTransfersRow.holds Try.pinned (OpenSpec.ofChange nettingTransfersWrong)

/-- 'specielaw48.NettingSettles': WHATEVER THE INPUT: true; the input reads as it did. -/
def nettingSettlesSpec : ChangeSpec := { name := "nettingSettles", fn := fun _ => fun
  | [d1, d2] => { results := [.lit (.bool true)], args := [d1, d2] }
  | _ => none }
def nettingSettlesRow : OpenClaim := { program := "ytidjoikheklpiaa", sum := "15bba4f55003161030d388bbeae0e3ff00a2243cc89fe7d2910d64c4ebcc00fe", func := "specie/specielaw48.NettingSettles", spec := "nettingSettles", unfollowed := true, recurses := true, apart := false }
def NettingSettlesSaid : Prop := nettingSettlesRow.holds Try.pinned (OpenSpec.ofChange nettingSettlesSpec)

/-- ITS FALSE NEIGHBOUR: 'it returns false'. Refute it at one input. -/
def nettingSettlesWrong : ChangeSpec := { name := "nettingSettles", fn := fun _ => fun
  | [d1, d2] => { results := [.lit (.bool false)], args := [d1, d2] }
  | _ => none }
def NettingSettlesWrongFalsely : Prop := nettingSettlesRow.holds Try.pinned (OpenSpec.ofChange nettingSettlesWrong)

/-- 'specielaw48.NettingClaims': WHATEVER THE INPUT: true; the input reads as it did. -/
def nettingClaimsSpec : ChangeSpec := { name := "nettingClaims", fn := fun _ => fun
  | [d1, d2] => { results := [.lit (.bool true)], args := [d1, d2] }
  | _ => none }
def nettingClaimsRow : OpenClaim := { program := "ytidjoikheklpiaa", sum := "15bba4f55003161030d388bbeae0e3ff00a2243cc89fe7d2910d64c4ebcc00fe", func := "specie/specielaw48.NettingClaims", spec := "nettingClaims", unfollowed := true, recurses := true, apart := false }
def NettingClaimsSaid : Prop := nettingClaimsRow.holds Try.pinned (OpenSpec.ofChange nettingClaimsSpec)

/-- ITS FALSE NEIGHBOUR: 'it returns false'. Refute it at one input. -/
def nettingClaimsWrong : ChangeSpec := { name := "nettingClaims", fn := fun _ => fun
  | [d1, d2] => { results := [.lit (.bool false)], args := [d1, d2] }
  | _ => none }
def NettingClaimsWrongFalsely : Prop := nettingClaimsRow.holds Try.pinned (OpenSpec.ofChange nettingClaimsWrong)

/-- 'specielaw48.NettingPairs': WHATEVER THE INPUT: true; the input reads as it did. -/
def nettingPairsSpec : ChangeSpec := { name := "nettingPairs", fn := fun _ => fun
  | [d1, d2] => { results := [.lit (.bool true)], args := [d1, d2] }
  | _ => none }
def nettingPairsRow : OpenClaim := { program := "ytidjoikheklpiaa", sum := "15bba4f55003161030d388bbeae0e3ff00a2243cc89fe7d2910d64c4ebcc00fe", func := "specie/specielaw48.NettingPairs", spec := "nettingPairs", unfollowed := true, recurses := true, apart := false }
def NettingPairsSaid : Prop := nettingPairsRow.holds Try.pinned (OpenSpec.ofChange nettingPairsSpec)

/-- ITS FALSE NEIGHBOUR: 'it returns false'. Refute it at one input. -/
def nettingPairsWrong : ChangeSpec := { name := "nettingPairs", fn := fun _ => fun
  | [d1, d2] => { results := [.lit (.bool false)], args := [d1, d2] }
  | _ => none }
def NettingPairsWrongFalsely : Prop := nettingPairsRow.holds Try.pinned (OpenSpec.ofChange nettingPairsWrong)

/-- 'specielaw48.NettingAdds': WHATEVER THE INPUT: true; the input reads as it did. -/
def nettingAddsSpec : ChangeSpec := { name := "nettingAdds", fn := fun _ => fun
  | [d1, d2, d3] => { results := [.lit (.bool true)], args := [d1, d2, d3] }
  | _ => none }
def nettingAddsRow : OpenClaim := { program := "ytidjoikheklpiaa", sum := "15bba4f55003161030d388bbeae0e3ff00a2243cc89fe7d2910d64c4ebcc00fe", func := "specie/specielaw48.NettingAdds", spec := "nettingAdds", unfollowed := true, recurses := true, apart := false }
def NettingAddsSaid : Prop := nettingAddsRow.holds Try.pinned (OpenSpec.ofChange nettingAddsSpec)

/-- ITS FALSE NEIGHBOUR: 'it returns false'. Refute it at one input. -/
def nettingAddsWrong : ChangeSpec := { name := "nettingAdds", fn := fun _ => fun
  | [d1, d2, d3] => { results := [.lit (.bool false)], args := [d1, d2, d3] }
  | _ => none }
def NettingAddsWrongFalsely : Prop := nettingAddsRow.holds Try.pinned (OpenSpec.ofChange nettingAddsWrong)

/- THE SECOND FORM. 'bulk': how many values and letters a reading holds, each counted each time it is reached (what is shared counts as often as it is met; a slice's spare places count too). A statement '..UptoSaid' is the law's where the arguments, and the package variables that the reading takes, are together of bulk at most 1048576: NARROWER than '..Said'. Prove '..Said' where nothing that the law and all that it calls make is longer than what came in: it says more and counts as full. Else prove '..UptoSaid'. A law counts once. -/
mutual
def uptoBulk {H : Type} : DataW H → Nat
  | .lit (.string bytes) => bytes.length + 1
  | .lit _ => 1
  | .nil => 1
  | .ptr d => uptoBulk d + 1
  | .slice elems spare => uptoBulkAll elems + uptoBulkAll spare + 1
  | .agg parts => uptoBulkAll parts + 1
  | .iface _ d => uptoBulk d + 1
  | .map entries => uptoBulkEntries entries + 1
  | .held _ => 1
def uptoBulkAll {H : Type} : List (DataW H) → Nat
  | [] => 0
  | d :: r => uptoBulk d + uptoBulkAll r
def uptoBulkEntries {H : Type} : List (Lit × DataW H) → Nat
  | [] => 0
  | x :: r => uptoBulkEntry x + uptoBulkEntries r
def uptoBulkEntry {H : Type} : Lit × DataW H → Nat
  | (.string bytes, d) => bytes.length + uptoBulk d + 1
  | (_, d) => uptoBulk d + 1
 end
def uptoSmall : (H : Type) → List (DataW H) → Bool := fun _ ds => decide (uptoBulkAll ds ≤ 1048576)
def OpenSpec.upto (s : _root_.Go.ChangeSpec) : _root_.Go.OpenSpec := { _root_.Go.OpenSpec.ofChange s with cond := some uptoSmall }

/-- 'specielaw48.NettingTransfers', WHERE WHAT IT READS IS OF BULK AT MOST 1048576: true; the input reads as it did. -/
def nettingTransfersUptoRow : OpenClaim := { program := "ytidjoikheklpiaa", sum := "15bba4f55003161030d388bbeae0e3ff00a2243cc89fe7d2910d64c4ebcc00fe", func := "specie/specielaw48.NettingTransfers", spec := "nettingTransfers", unfollowed := true, recurses := true, apart := false, narrowed := true }
def NettingTransfersUptoSaid : Prop := nettingTransfersUptoRow.holds Try.pinned (OpenSpec.upto nettingTransfersSpec)

/-- 'specielaw48.NettingSettles', WHERE WHAT IT READS IS OF BULK AT MOST 1048576: true; the input reads as it did. -/
def nettingSettlesUptoRow : OpenClaim := { program := "ytidjoikheklpiaa", sum := "15bba4f55003161030d388bbeae0e3ff00a2243cc89fe7d2910d64c4ebcc00fe", func := "specie/specielaw48.NettingSettles", spec := "nettingSettles", unfollowed := true, recurses := true, apart := false, narrowed := true }
def NettingSettlesUptoSaid : Prop := nettingSettlesUptoRow.holds Try.pinned (OpenSpec.upto nettingSettlesSpec)

/-- 'specielaw48.NettingClaims', WHERE WHAT IT READS IS OF BULK AT MOST 1048576: true; the input reads as it did. -/
def nettingClaimsUptoRow : OpenClaim := { program := "ytidjoikheklpiaa", sum := "15bba4f55003161030d388bbeae0e3ff00a2243cc89fe7d2910d64c4ebcc00fe", func := "specie/specielaw48.NettingClaims", spec := "nettingClaims", unfollowed := true, recurses := true, apart := false, narrowed := true }
def NettingClaimsUptoSaid : Prop := nettingClaimsUptoRow.holds Try.pinned (OpenSpec.upto nettingClaimsSpec)

/-- 'specielaw48.NettingPairs', WHERE WHAT IT READS IS OF BULK AT MOST 1048576: true; the input reads as it did. -/
def nettingPairsUptoRow : OpenClaim := { program := "ytidjoikheklpiaa", sum := "15bba4f55003161030d388bbeae0e3ff00a2243cc89fe7d2910d64c4ebcc00fe", func := "specie/specielaw48.NettingPairs", spec := "nettingPairs", unfollowed := true, recurses := true, apart := false, narrowed := true }
def NettingPairsUptoSaid : Prop := nettingPairsUptoRow.holds Try.pinned (OpenSpec.upto nettingPairsSpec)

/-- 'specielaw48.NettingAdds', WHERE WHAT IT READS IS OF BULK AT MOST 1048576: true; the input reads as it did. -/
def nettingAddsUptoRow : OpenClaim := { program := "ytidjoikheklpiaa", sum := "15bba4f55003161030d388bbeae0e3ff00a2243cc89fe7d2910d64c4ebcc00fe", func := "specie/specielaw48.NettingAdds", spec := "nettingAdds", unfollowed := true, recurses := true, apart := false, narrowed := true }
def NettingAddsUptoSaid : Prop := nettingAddsUptoRow.holds Try.pinned (OpenSpec.upto nettingAddsSpec)

end Rows
end Go.Proofs.Ytidjoikheklpiaa
