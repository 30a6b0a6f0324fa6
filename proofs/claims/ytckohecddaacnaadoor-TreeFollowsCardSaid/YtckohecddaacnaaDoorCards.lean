/-
  DERIVED. GIVEN WITH THE SEED: THE CARDS: each row of YtckohecddaacnaaDoorRows.lean that lists a variable, with what it lists TIED to the program's text (the seventh form; the later family's looks); each row that meets fmt, with fmt's text TOLD by the authors' own Lean function (tested against real Go, not proved from fmt's source: count such statements apart). THE CARD IS WHAT COUNTS. Prove the row's statement (the work); the ties are given (YtckohecddaacnaaDoorTie.lean); close each card by the builder's one call (the guide's Derived/Test/ToyasCard.lean, 'card_holds'). Laid BY PROGRAM, IN A SANDBOX (cutbox-door.mjs). By AI agents, Wed Nov 11 2026. No macro, syntax, notation, axiom, sorry.
-/
import Derived.Test.YtckohecddaacnaaDoorRows
import GoSem.ClaimSeven
namespace Go.Proofs.YtckohecddaacnaaDoor
namespace Rows

/-- THE TIED CARD OF 'specielaw27.TreeNodes'. -/
def treeNodesCard : Claim7 := { stood := { row := treeNodesRow, standIns := [], harness := (true, "ab3c76dff25242fea1aa9397a34f9a8670a161dfe01887f7f7d154afa65bc65c"), looks := false }, kinds := [], alts := [], laidByText := true, laidKinds := [.data, .data], laidTests := true, laidLooks := .later }
def TreeNodesCardSaid : Prop := Claim7.holds Tryd.pinned (.plain (OpenSpec.ofChange treeNodesSpec)) treeNodesCard

/-- THE TIED CARD OF 'specielaw27.TreeParts'. -/
def treePartsCard : Claim7 := { stood := { row := treePartsRow, standIns := [], harness := (true, "ab3c76dff25242fea1aa9397a34f9a8670a161dfe01887f7f7d154afa65bc65c"), looks := false }, kinds := [], alts := [], laidByText := true, laidKinds := [.data, .data], laidTests := true, laidLooks := .later }
def TreePartsCardSaid : Prop := Claim7.holds Tryd.pinned (.plain (OpenSpec.ofChange treePartsSpec)) treePartsCard

/-- THE TIED CARD OF 'specielaw27.TreePaths'. -/
def treePathsCard : Claim7 := { stood := { row := treePathsRow, standIns := [], harness := (true, "ab3c76dff25242fea1aa9397a34f9a8670a161dfe01887f7f7d154afa65bc65c"), looks := false }, kinds := [], alts := [], laidByText := true, laidKinds := [.data, .data], laidTests := true, laidLooks := .later }
def TreePathsCardSaid : Prop := Claim7.holds Tryd.pinned (.plain (OpenSpec.ofChange treePathsSpec)) treePathsCard

/-- THE TIED CARD OF 'specielaw27.TreeFollows'. -/
def treeFollowsCard : Claim7 := { stood := { row := treeFollowsRow, standIns := [], harness := (true, "ab3c76dff25242fea1aa9397a34f9a8670a161dfe01887f7f7d154afa65bc65c"), looks := false }, kinds := [], alts := [], laidByText := true, laidKinds := [.data, .data], laidTests := true, laidLooks := .later }
def TreeFollowsCardSaid : Prop := Claim7.holds Tryd.pinned (.plain (OpenSpec.ofChange treeFollowsSpec)) treeFollowsCard

/-- THE TIED CARD OF 'specielaw27.TreeBinds'. -/
def treeBindsCard : Claim7 := { stood := { row := treeBindsRow, standIns := [], harness := (true, "ab3c76dff25242fea1aa9397a34f9a8670a161dfe01887f7f7d154afa65bc65c"), looks := false }, kinds := [], alts := [], laidByText := true, laidKinds := [.data, .data], laidTests := true, laidLooks := .later }
def TreeBindsCardSaid : Prop := Claim7.holds Tryd.pinned (.plain (OpenSpec.ofChange treeBindsSpec)) treeBindsCard

/-- THE SECOND FORM's CARD OF 'specielaw27.TreeNodes'. -/
def treeNodesUptoCard : Claim7 := { stood := { row := treeNodesUptoRow, standIns := [], harness := (true, "ab3c76dff25242fea1aa9397a34f9a8670a161dfe01887f7f7d154afa65bc65c"), looks := false }, kinds := [], alts := [], laidByText := true, laidKinds := [.data, .data], laidTests := true, laidLooks := .later }
def TreeNodesUptoCardSaid : Prop := Claim7.holds Tryd.pinned (.plain (OpenSpec.upto treeNodesSpec)) treeNodesUptoCard

/-- THE SECOND FORM's CARD OF 'specielaw27.TreeParts'. -/
def treePartsUptoCard : Claim7 := { stood := { row := treePartsUptoRow, standIns := [], harness := (true, "ab3c76dff25242fea1aa9397a34f9a8670a161dfe01887f7f7d154afa65bc65c"), looks := false }, kinds := [], alts := [], laidByText := true, laidKinds := [.data, .data], laidTests := true, laidLooks := .later }
def TreePartsUptoCardSaid : Prop := Claim7.holds Tryd.pinned (.plain (OpenSpec.upto treePartsSpec)) treePartsUptoCard

/-- THE SECOND FORM's CARD OF 'specielaw27.TreePaths'. -/
def treePathsUptoCard : Claim7 := { stood := { row := treePathsUptoRow, standIns := [], harness := (true, "ab3c76dff25242fea1aa9397a34f9a8670a161dfe01887f7f7d154afa65bc65c"), looks := false }, kinds := [], alts := [], laidByText := true, laidKinds := [.data, .data], laidTests := true, laidLooks := .later }
def TreePathsUptoCardSaid : Prop := Claim7.holds Tryd.pinned (.plain (OpenSpec.upto treePathsSpec)) treePathsUptoCard

/-- THE SECOND FORM's CARD OF 'specielaw27.TreeFollows'. -/
def treeFollowsUptoCard : Claim7 := { stood := { row := treeFollowsUptoRow, standIns := [], harness := (true, "ab3c76dff25242fea1aa9397a34f9a8670a161dfe01887f7f7d154afa65bc65c"), looks := false }, kinds := [], alts := [], laidByText := true, laidKinds := [.data, .data], laidTests := true, laidLooks := .later }
def TreeFollowsUptoCardSaid : Prop := Claim7.holds Tryd.pinned (.plain (OpenSpec.upto treeFollowsSpec)) treeFollowsUptoCard

/-- THE SECOND FORM's CARD OF 'specielaw27.TreeBinds'. -/
def treeBindsUptoCard : Claim7 := { stood := { row := treeBindsUptoRow, standIns := [], harness := (true, "ab3c76dff25242fea1aa9397a34f9a8670a161dfe01887f7f7d154afa65bc65c"), looks := false }, kinds := [], alts := [], laidByText := true, laidKinds := [.data, .data], laidTests := true, laidLooks := .later }
def TreeBindsUptoCardSaid : Prop := Claim7.holds Tryd.pinned (.plain (OpenSpec.upto treeBindsSpec)) treeBindsUptoCard
end Rows
end Go.Proofs.YtckohecddaacnaaDoor
