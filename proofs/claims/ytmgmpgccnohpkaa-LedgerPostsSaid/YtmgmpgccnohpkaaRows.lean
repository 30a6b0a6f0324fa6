/-
  No cell of these rows narrows 'for every input' (looked for: loops, veiled, ifaces, maps, wideKeys, modest, calm, conditions, laid).
  DERIVED. THE GIVEN ROWS OF THIS SEAT. 6 by the template 'for every input the law returns true; each argument reads behind the call as it read before'; 0 by the template 'total and deterministic' (their statements: YtmgmpgccnohpkaaTotals.lean).
  GIVEN WITH THE SEED: the statements are not yours to turn. If you find one false, say at which input.
  Laid BY PROGRAM, IN A SANDBOX (cutbox-rows.mjs): the forced cells as the released guide's own fill.sh prints them over the translation 9f24828f72d3754a… (all of the seat's roots in one cut). By AI agents, Wed Nov 11 2026. No macro, syntax, notation, axiom, sorry.
-/
import Derived.Test.YtmgmpgccnohpkaaChecked
import GoSem.Claim
import GoSem.ClaimJoined
import GoSem.ClaimMapViews
import Derived.JoinedTies
import Derived.KernelRfl
namespace Go.Proofs.Ytmgmpgccnohpkaa
/- THE CELL 'sum', in the pinned program and in every row, IS THE sha256 OF THE DUMP (.gsa) THAT YtmgmpgccnohpkaaProg.lean LOADS. Nothing in Lean hashes anything: it is a label: what it is worth is what the hold of that sum in a sandbox is worth. -/
noncomputable def Try.pinned : Pinned := { name := "ytmgmpgccnohpkaa", sum := "9f24828f72d3754a9e935271ec94dcc7dc486b248941e52e2e08d52a6c6fc143", checked := Try.checked }
namespace Rows
def none {H : Type} : Left H := { results := [], args := [] }

/-- 'specielaw43.LedgerReplays': WHATEVER THE INPUT: true; the input reads as it did. -/
def ledgerReplaysSpec : ChangeSpec := { name := "ledgerReplays", fn := fun _ => fun
  | [d1, d2] => { results := [.lit (.bool true)], args := [d1, d2] }
  | _ => none }
def ledgerReplaysRow : OpenClaim := { program := "ytmgmpgccnohpkaa", sum := "9f24828f72d3754a9e935271ec94dcc7dc486b248941e52e2e08d52a6c6fc143", func := "specie/specielaw43.LedgerReplays", spec := "ledgerReplays", apart := false }
def LedgerReplaysSaid : Prop := ledgerReplaysRow.holds Try.pinned (OpenSpec.ofChange ledgerReplaysSpec)

/-- ITS FALSE NEIGHBOUR: 'it returns false'. Refute it at one input. -/
def ledgerReplaysWrong : ChangeSpec := { name := "ledgerReplays", fn := fun _ => fun
  | [d1, d2] => { results := [.lit (.bool false)], args := [d1, d2] }
  | _ => none }
def LedgerReplaysWrongFalsely : Prop := ledgerReplaysRow.holds Try.pinned (OpenSpec.ofChange ledgerReplaysWrong)

/-- 'specielaw43.LedgerPosts': WHATEVER THE INPUT: true; the input reads as it did. -/
def ledgerPostsSpec : ChangeSpec := { name := "ledgerPosts", fn := fun _ => fun
  | [d1, d2, d3] => { results := [.lit (.bool true)], args := [d1, d2, d3] }
  | _ => none }
def ledgerPostsRow : OpenClaim := { program := "ytmgmpgccnohpkaa", sum := "9f24828f72d3754a9e935271ec94dcc7dc486b248941e52e2e08d52a6c6fc143", func := "specie/specielaw43.LedgerPosts", spec := "ledgerPosts", apart := false }
def LedgerPostsSaid : Prop := ledgerPostsRow.holds Try.pinned (OpenSpec.ofChange ledgerPostsSpec)

/-- ITS FALSE NEIGHBOUR: 'it returns false'. Refute it at one input. -/
def ledgerPostsWrong : ChangeSpec := { name := "ledgerPosts", fn := fun _ => fun
  | [d1, d2, d3] => { results := [.lit (.bool false)], args := [d1, d2, d3] }
  | _ => none }
def LedgerPostsWrongFalsely : Prop := ledgerPostsRow.holds Try.pinned (OpenSpec.ofChange ledgerPostsWrong)

/-- 'specielaw43.LedgerFunds': WHATEVER THE INPUT: true; the input reads as it did. -/
def ledgerFundsSpec : ChangeSpec := { name := "ledgerFunds", fn := fun _ => fun
  | [d1, d2] => { results := [.lit (.bool true)], args := [d1, d2] }
  | _ => none }
def ledgerFundsRow : OpenClaim := { program := "ytmgmpgccnohpkaa", sum := "9f24828f72d3754a9e935271ec94dcc7dc486b248941e52e2e08d52a6c6fc143", func := "specie/specielaw43.LedgerFunds", spec := "ledgerFunds", apart := false }
def LedgerFundsSaid : Prop := ledgerFundsRow.holds Try.pinned (OpenSpec.ofChange ledgerFundsSpec)

/-- ITS FALSE NEIGHBOUR: 'it returns false'. Refute it at one input. -/
def ledgerFundsWrong : ChangeSpec := { name := "ledgerFunds", fn := fun _ => fun
  | [d1, d2] => { results := [.lit (.bool false)], args := [d1, d2] }
  | _ => none }
def LedgerFundsWrongFalsely : Prop := ledgerFundsRow.holds Try.pinned (OpenSpec.ofChange ledgerFundsWrong)

/-- 'specielaw43.LedgerReads': WHATEVER THE INPUT: true; the input reads as it did. -/
def ledgerReadsSpec : ChangeSpec := { name := "ledgerReads", fn := fun _ => fun
  | [d1, d2] => { results := [.lit (.bool true)], args := [d1, d2] }
  | _ => none }
def ledgerReadsRow : OpenClaim := { program := "ytmgmpgccnohpkaa", sum := "9f24828f72d3754a9e935271ec94dcc7dc486b248941e52e2e08d52a6c6fc143", func := "specie/specielaw43.LedgerReads", spec := "ledgerReads", unfollowed := true, recurses := true, apart := false }
def LedgerReadsSaid : Prop := ledgerReadsRow.holds Try.pinned (OpenSpec.ofChange ledgerReadsSpec)

/-- ITS FALSE NEIGHBOUR: 'it returns false'. Refute it at one input. -/
def ledgerReadsWrong : ChangeSpec := { name := "ledgerReads", fn := fun _ => fun
  | [d1, d2] => { results := [.lit (.bool false)], args := [d1, d2] }
  | _ => none }
def LedgerReadsWrongFalsely : Prop := ledgerReadsRow.holds Try.pinned (OpenSpec.ofChange ledgerReadsWrong)

/-- 'specielaw43.LedgerBalances': WHATEVER THE INPUT: true; the input reads as it did. -/
def ledgerBalancesSpec : ChangeSpec := { name := "ledgerBalances", fn := fun _ => fun
  | [d1, d2] => { results := [.lit (.bool true)], args := [d1, d2] }
  | _ => none }
def ledgerBalancesRow : OpenClaim := { program := "ytmgmpgccnohpkaa", sum := "9f24828f72d3754a9e935271ec94dcc7dc486b248941e52e2e08d52a6c6fc143", func := "specie/specielaw43.LedgerBalances", spec := "ledgerBalances", unfollowed := true, recurses := true, apart := false }
def LedgerBalancesSaid : Prop := ledgerBalancesRow.holds Try.pinned (OpenSpec.ofChange ledgerBalancesSpec)

/-- ITS FALSE NEIGHBOUR: 'it returns false'. Refute it at one input. -/
def ledgerBalancesWrong : ChangeSpec := { name := "ledgerBalances", fn := fun _ => fun
  | [d1, d2] => { results := [.lit (.bool false)], args := [d1, d2] }
  | _ => none }
def LedgerBalancesWrongFalsely : Prop := ledgerBalancesRow.holds Try.pinned (OpenSpec.ofChange ledgerBalancesWrong)

/-- 'specielaw43.LedgerOpens': WHATEVER THE INPUT: true; the input reads as it did. -/
def ledgerOpensSpec : ChangeSpec := { name := "ledgerOpens", fn := fun _ => fun
  | [d] => { results := [.lit (.bool true)], args := [d] }
  | _ => none }
def ledgerOpensRow : OpenClaim := { program := "ytmgmpgccnohpkaa", sum := "9f24828f72d3754a9e935271ec94dcc7dc486b248941e52e2e08d52a6c6fc143", func := "specie/specielaw43.LedgerOpens", spec := "ledgerOpens", unfollowed := true, recurses := true, apart := false }
def LedgerOpensSaid : Prop := ledgerOpensRow.holds Try.pinned (OpenSpec.ofChange ledgerOpensSpec)

/-- ITS FALSE NEIGHBOUR: 'it returns false'. Refute it at one input. -/
def ledgerOpensWrong : ChangeSpec := { name := "ledgerOpens", fn := fun _ => fun
  | [d] => { results := [.lit (.bool false)], args := [d] }
  | _ => none }
def LedgerOpensWrongFalsely : Prop := ledgerOpensRow.holds Try.pinned (OpenSpec.ofChange ledgerOpensWrong)

/- THE SECOND FORM. 'bulk': how many values and letters a reading holds, each counted each time it is reached (what is shared counts as often as it is met; a slice's spare places count too). A statement '..UptoSaid' is the law's where the arguments, and the package variables that the reading takes, are together of bulk at most 1048576: NARROWER than '..Said'. Prove '..Said' where nothing that the law and all that it calls make is longer than what came in: it says more and counts as full. Else prove '..UptoSaid'. A law counts once. -/
mutual
def uptoBulk {H : Type} : DataW H → Nat
  | .lit (.string bytes) => bytes.length + 1
  | .lit _ => 1
  | .nil => 1
  | .ptr d => uptoBulk d + 1
  | .slice elems spare => uptoBulkAll elems + uptoBulkAll spare + 1
  | .agg parts => uptoBulkAll parts + 1
  | .iface _ d => uptoBulk d + 1
  | .map entries => uptoBulkEntries entries + 1
  | .held _ => 1
def uptoBulkAll {H : Type} : List (DataW H) → Nat
  | [] => 0
  | d :: r => uptoBulk d + uptoBulkAll r
def uptoBulkEntries {H : Type} : List (Lit × DataW H) → Nat
  | [] => 0
  | x :: r => uptoBulkEntry x + uptoBulkEntries r
def uptoBulkEntry {H : Type} : Lit × DataW H → Nat
  | (.string bytes, d) => bytes.length + uptoBulk d + 1
  | (_, d) => uptoBulk d + 1
 end
def uptoSmall : (H : Type) → List (DataW H) → Bool := fun _ ds => decide (uptoBulkAll ds ≤ 1048576)
def OpenSpec.upto (s : _root_.Go.ChangeSpec) : _root_.Go.OpenSpec := { _root_.Go.OpenSpec.ofChange s with cond := some uptoSmall }

/-- 'specielaw43.LedgerReplays', WHERE WHAT IT READS IS OF BULK AT MOST 1048576: true; the input reads as it did. -/
def ledgerReplaysUptoRow : OpenClaim := { program := "ytmgmpgccnohpkaa", sum := "9f24828f72d3754a9e935271ec94dcc7dc486b248941e52e2e08d52a6c6fc143", func := "specie/specielaw43.LedgerReplays", spec := "ledgerReplays", apart := false, narrowed := true }
def LedgerReplaysUptoSaid : Prop := ledgerReplaysUptoRow.holds Try.pinned (OpenSpec.upto ledgerReplaysSpec)

/-- 'specielaw43.LedgerPosts', WHERE WHAT IT READS IS OF BULK AT MOST 1048576: true; the input reads as it did. -/
def ledgerPostsUptoRow : OpenClaim := { program := "ytmgmpgccnohpkaa", sum := "9f24828f72d3754a9e935271ec94dcc7dc486b248941e52e2e08d52a6c6fc143", func := "specie/specielaw43.LedgerPosts", spec := "ledgerPosts", apart := false, narrowed := true }
def LedgerPostsUptoSaid : Prop := ledgerPostsUptoRow.holds Try.pinned (OpenSpec.upto ledgerPostsSpec)

/-- 'specielaw43.LedgerFunds', WHERE WHAT IT READS IS OF BULK AT MOST 1048576: true; the input reads as it did. -/
def ledgerFundsUptoRow : OpenClaim := { program := "ytmgmpgccnohpkaa", sum := "9f24828f72d3754a9e935271ec94dcc7dc486b248941e52e2e08d52a6c6fc143", func := "specie/specielaw43.LedgerFunds", spec := "ledgerFunds", apart := false, narrowed := true }
def LedgerFundsUptoSaid : Prop := ledgerFundsUptoRow.holds Try.pinned (OpenSpec.upto ledgerFundsSpec)

/-- 'specielaw43.LedgerReads', WHERE WHAT IT READS IS OF BULK AT MOST 1048576: true; the input reads as it did. -/
def ledgerReadsUptoRow : OpenClaim := { program := "ytmgmpgccnohpkaa", sum := "9f24828f72d3754a9e935271ec94dcc7dc486b248941e52e2e08d52a6c6fc143", func := "specie/specielaw43.LedgerReads", spec := "ledgerReads", unfollowed := true, recurses := true, apart := false, narrowed := true }
def LedgerReadsUptoSaid : Prop := ledgerReadsUptoRow.holds Try.pinned (OpenSpec.upto ledgerReadsSpec)

/-- 'specielaw43.LedgerBalances', WHERE WHAT IT READS IS OF BULK AT MOST 1048576: true; the input reads as it did. -/
def ledgerBalancesUptoRow : OpenClaim := { program := "ytmgmpgccnohpkaa", sum := "9f24828f72d3754a9e935271ec94dcc7dc486b248941e52e2e08d52a6c6fc143", func := "specie/specielaw43.LedgerBalances", spec := "ledgerBalances", unfollowed := true, recurses := true, apart := false, narrowed := true }
def LedgerBalancesUptoSaid : Prop := ledgerBalancesUptoRow.holds Try.pinned (OpenSpec.upto ledgerBalancesSpec)

/-- 'specielaw43.LedgerOpens', WHERE WHAT IT READS IS OF BULK AT MOST 1048576: true; the input reads as it did. -/
def ledgerOpensUptoRow : OpenClaim := { program := "ytmgmpgccnohpkaa", sum := "9f24828f72d3754a9e935271ec94dcc7dc486b248941e52e2e08d52a6c6fc143", func := "specie/specielaw43.LedgerOpens", spec := "ledgerOpens", unfollowed := true, recurses := true, apart := false, narrowed := true }
def LedgerOpensUptoSaid : Prop := ledgerOpensUptoRow.holds Try.pinned (OpenSpec.upto ledgerOpensSpec)

end Rows
end Go.Proofs.Ytmgmpgccnohpkaa
