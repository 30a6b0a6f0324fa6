/-
  DERIVED. GIVEN WITH THE SEED: THE CARDS: each row of YtkmpiamfgmdihaaDoorRows.lean that lists a variable, with what it lists TIED to the program's text (the seventh form; the later family's looks); each row that meets fmt, with fmt's text TOLD by the authors' own Lean function (tested against real Go, not proved from fmt's source: count such statements apart). THE CARD IS WHAT COUNTS. Prove the row's statement (the work); the ties are given (YtkmpiamfgmdihaaDoorTie.lean); close each card by the builder's one call (the guide's Derived/Test/ToyasCard.lean, 'card_holds'). Laid BY PROGRAM, IN A SANDBOX (cutbox-door.mjs). By AI agents, Wed Nov 11 2026. No macro, syntax, notation, axiom, sorry.
-/
import Derived.Test.YtkmpiamfgmdihaaDoorRows
import GoSem.ClaimSeven
namespace Go.Proofs.YtkmpiamfgmdihaaDoor
namespace Rows

/-- THE TIED CARD OF 'specielaw34.DivideCovers'. -/
def divideCoversCard : Claim7 := { stood := { row := divideCoversRow, standIns := [], harness := (true, "a88434f3f91a357cf1fd568cf98c37d4f37afaa6aa8ce93575f1cbad2ce9984b"), looks := false }, kinds := [], alts := [], laidByText := true, laidKinds := [.data, .data], laidTests := true, laidLooks := .later }
def DivideCoversCardSaid : Prop := Claim7.holds Tryd.pinned (.plain (OpenSpec.ofChange divideCoversSpec)) divideCoversCard

/-- THE TIED CARD OF 'specielaw34.DivideFewest'. -/
def divideFewestCard : Claim7 := { stood := { row := divideFewestRow, standIns := [], harness := (true, "a88434f3f91a357cf1fd568cf98c37d4f37afaa6aa8ce93575f1cbad2ce9984b"), looks := false }, kinds := [], alts := [], laidByText := true, laidKinds := [.data, .data], laidTests := true, laidLooks := .later }
def DivideFewestCardSaid : Prop := Claim7.holds Tryd.pinned (.plain (OpenSpec.ofChange divideFewestSpec)) divideFewestCard

/-- THE TIED CARD OF 'specielaw34.DivideHalves'. -/
def divideHalvesCard : Claim7 := { stood := { row := divideHalvesRow, standIns := [], harness := (true, "a88434f3f91a357cf1fd568cf98c37d4f37afaa6aa8ce93575f1cbad2ce9984b"), looks := false }, kinds := [], alts := [], laidByText := true, laidKinds := [.data, .data], laidTests := true, laidLooks := .later }
def DivideHalvesCardSaid : Prop := Claim7.holds Tryd.pinned (.plain (OpenSpec.ofChange divideHalvesSpec)) divideHalvesCard

/-- THE TIED CARD OF 'specielaw34.DivideExact'. -/
def divideExactCard : Claim7 := { stood := { row := divideExactRow, standIns := [], harness := (true, "a88434f3f91a357cf1fd568cf98c37d4f37afaa6aa8ce93575f1cbad2ce9984b"), looks := false }, kinds := [], alts := [], laidByText := true, laidKinds := [.data, .data], laidTests := true, laidLooks := .later }
def DivideExactCardSaid : Prop := Claim7.holds Tryd.pinned (.plain (OpenSpec.ofChange divideExactSpec)) divideExactCard

/-- THE TIED CARD OF 'specielaw34.DivideStates'. -/
def divideStatesCard : Claim7 := { stood := { row := divideStatesRow, standIns := [], harness := (true, "a88434f3f91a357cf1fd568cf98c37d4f37afaa6aa8ce93575f1cbad2ce9984b"), looks := false }, kinds := [], alts := [], laidByText := true, laidKinds := [.data, .data], laidTests := true, laidLooks := .later }
def DivideStatesCardSaid : Prop := Claim7.holds Tryd.pinned (.plain (OpenSpec.ofChange divideStatesSpec)) divideStatesCard

/-- THE TIED CARD OF 'specielaw34.DivideNodes'. -/
def divideNodesCard : Claim7 := { stood := { row := divideNodesRow, standIns := [], harness := (true, "a88434f3f91a357cf1fd568cf98c37d4f37afaa6aa8ce93575f1cbad2ce9984b"), looks := false }, kinds := [], alts := [], laidByText := true, laidKinds := [.data, .data], laidTests := true, laidLooks := .later }
def DivideNodesCardSaid : Prop := Claim7.holds Tryd.pinned (.plain (OpenSpec.ofChange divideNodesSpec)) divideNodesCard

/-- THE TIED CARD OF 'specielaw34.DivideAncestors'. -/
def divideAncestorsCard : Claim7 := { stood := { row := divideAncestorsRow, standIns := [], harness := (true, "a88434f3f91a357cf1fd568cf98c37d4f37afaa6aa8ce93575f1cbad2ce9984b"), looks := false }, kinds := [], alts := [], laidByText := true, laidKinds := [.data, .data], laidTests := true, laidLooks := .later }
def DivideAncestorsCardSaid : Prop := Claim7.holds Tryd.pinned (.plain (OpenSpec.ofChange divideAncestorsSpec)) divideAncestorsCard

/-- THE SECOND FORM's CARD OF 'specielaw34.DivideCovers'. -/
def divideCoversUptoCard : Claim7 := { stood := { row := divideCoversUptoRow, standIns := [], harness := (true, "a88434f3f91a357cf1fd568cf98c37d4f37afaa6aa8ce93575f1cbad2ce9984b"), looks := false }, kinds := [], alts := [], laidByText := true, laidKinds := [.data, .data], laidTests := true, laidLooks := .later }
def DivideCoversUptoCardSaid : Prop := Claim7.holds Tryd.pinned (.plain (OpenSpec.upto divideCoversSpec)) divideCoversUptoCard

/-- THE SECOND FORM's CARD OF 'specielaw34.DivideFewest'. -/
def divideFewestUptoCard : Claim7 := { stood := { row := divideFewestUptoRow, standIns := [], harness := (true, "a88434f3f91a357cf1fd568cf98c37d4f37afaa6aa8ce93575f1cbad2ce9984b"), looks := false }, kinds := [], alts := [], laidByText := true, laidKinds := [.data, .data], laidTests := true, laidLooks := .later }
def DivideFewestUptoCardSaid : Prop := Claim7.holds Tryd.pinned (.plain (OpenSpec.upto divideFewestSpec)) divideFewestUptoCard

/-- THE SECOND FORM's CARD OF 'specielaw34.DivideHalves'. -/
def divideHalvesUptoCard : Claim7 := { stood := { row := divideHalvesUptoRow, standIns := [], harness := (true, "a88434f3f91a357cf1fd568cf98c37d4f37afaa6aa8ce93575f1cbad2ce9984b"), looks := false }, kinds := [], alts := [], laidByText := true, laidKinds := [.data, .data], laidTests := true, laidLooks := .later }
def DivideHalvesUptoCardSaid : Prop := Claim7.holds Tryd.pinned (.plain (OpenSpec.upto divideHalvesSpec)) divideHalvesUptoCard

/-- THE SECOND FORM's CARD OF 'specielaw34.DivideExact'. -/
def divideExactUptoCard : Claim7 := { stood := { row := divideExactUptoRow, standIns := [], harness := (true, "a88434f3f91a357cf1fd568cf98c37d4f37afaa6aa8ce93575f1cbad2ce9984b"), looks := false }, kinds := [], alts := [], laidByText := true, laidKinds := [.data, .data], laidTests := true, laidLooks := .later }
def DivideExactUptoCardSaid : Prop := Claim7.holds Tryd.pinned (.plain (OpenSpec.upto divideExactSpec)) divideExactUptoCard

/-- THE SECOND FORM's CARD OF 'specielaw34.DivideStates'. -/
def divideStatesUptoCard : Claim7 := { stood := { row := divideStatesUptoRow, standIns := [], harness := (true, "a88434f3f91a357cf1fd568cf98c37d4f37afaa6aa8ce93575f1cbad2ce9984b"), looks := false }, kinds := [], alts := [], laidByText := true, laidKinds := [.data, .data], laidTests := true, laidLooks := .later }
def DivideStatesUptoCardSaid : Prop := Claim7.holds Tryd.pinned (.plain (OpenSpec.upto divideStatesSpec)) divideStatesUptoCard

/-- THE SECOND FORM's CARD OF 'specielaw34.DivideNodes'. -/
def divideNodesUptoCard : Claim7 := { stood := { row := divideNodesUptoRow, standIns := [], harness := (true, "a88434f3f91a357cf1fd568cf98c37d4f37afaa6aa8ce93575f1cbad2ce9984b"), looks := false }, kinds := [], alts := [], laidByText := true, laidKinds := [.data, .data], laidTests := true, laidLooks := .later }
def DivideNodesUptoCardSaid : Prop := Claim7.holds Tryd.pinned (.plain (OpenSpec.upto divideNodesSpec)) divideNodesUptoCard

/-- THE SECOND FORM's CARD OF 'specielaw34.DivideAncestors'. -/
def divideAncestorsUptoCard : Claim7 := { stood := { row := divideAncestorsUptoRow, standIns := [], harness := (true, "a88434f3f91a357cf1fd568cf98c37d4f37afaa6aa8ce93575f1cbad2ce9984b"), looks := false }, kinds := [], alts := [], laidByText := true, laidKinds := [.data, .data], laidTests := true, laidLooks := .later }
def DivideAncestorsUptoCardSaid : Prop := Claim7.holds Tryd.pinned (.plain (OpenSpec.upto divideAncestorsSpec)) divideAncestorsUptoCard
end Rows
end Go.Proofs.YtkmpiamfgmdihaaDoor
