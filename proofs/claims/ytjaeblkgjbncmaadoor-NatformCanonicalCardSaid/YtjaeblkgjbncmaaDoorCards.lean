/-
  DERIVED. GIVEN WITH THE SEED: THE CARDS: each row of YtjaeblkgjbncmaaDoorRows.lean that lists a variable, with what it lists TIED to the program's text (the seventh form; the later family's looks); each row that meets fmt, with fmt's text TOLD by the authors' own Lean function (tested against real Go, not proved from fmt's source: count such statements apart). THE CARD IS WHAT COUNTS. Prove the row's statement (the work); the ties are given (YtjaeblkgjbncmaaDoorTie.lean); close each card by the builder's one call (the guide's Derived/Test/ToyasCard.lean, 'card_holds'). Laid BY PROGRAM, IN A SANDBOX (cutbox-door.mjs). By AI agents, Wed Nov 11 2026. No macro, syntax, notation, axiom, sorry.
-/
import Derived.Test.YtjaeblkgjbncmaaDoorRows
import GoSem.ClaimSeven
namespace Go.Proofs.YtjaeblkgjbncmaaDoor
namespace Rows

/-- THE TIED CARD OF 'specielaw04.NatformCanonical'. -/
def natformCanonicalCard : Claim7 := { stood := { row := natformCanonicalRow, standIns := [], harness := (true, "50ad9ea3aa6201c135bfd32b550309916875a256471ea93608365a047737de5f"), looks := false }, kinds := [], alts := [], laidByText := true, laidKinds := [.data, .data, .data], laidTests := true, laidLooks := .later }
def NatformCanonicalCardSaid : Prop := Claim7.holds Tryd.pinned (.plain (OpenSpec.ofChange natformCanonicalSpec)) natformCanonicalCard

/-- THE TIED CARD OF 'specielaw04.NatformBack'. -/
def natformBackCard : Claim7 := { stood := { row := natformBackRow, standIns := [], harness := (true, "50ad9ea3aa6201c135bfd32b550309916875a256471ea93608365a047737de5f"), looks := false }, kinds := [], alts := [], laidByText := true, laidKinds := [.data, .data, .data], laidTests := true, laidLooks := .later }
def NatformBackCardSaid : Prop := Claim7.holds Tryd.pinned (.plain (OpenSpec.ofChange natformBackSpec)) natformBackCard

/-- THE TIED CARD OF 'specielaw04.NatformDigits'. -/
def natformDigitsCard : Claim7 := { stood := { row := natformDigitsRow, standIns := [], harness := (true, "50ad9ea3aa6201c135bfd32b550309916875a256471ea93608365a047737de5f"), looks := false }, kinds := [], alts := [], laidByText := true, laidKinds := [.data, .data, .data], laidTests := true, laidLooks := .later }
def NatformDigitsCardSaid : Prop := Claim7.holds Tryd.pinned (.plain (OpenSpec.ofChange natformDigitsSpec)) natformDigitsCard

/-- THE TIED CARD OF 'specielaw04.NatformParses'. -/
def natformParsesCard : Claim7 := { stood := { row := natformParsesRow, standIns := [], harness := (true, "50ad9ea3aa6201c135bfd32b550309916875a256471ea93608365a047737de5f"), looks := false }, kinds := [], alts := [], laidByText := true, laidKinds := [.data, .data, .data], laidTests := true, laidLooks := .later }
def NatformParsesCardSaid : Prop := Claim7.holds Tryd.pinned (.plain (OpenSpec.ofChange natformParsesSpec)) natformParsesCard

/-- THE TIED CARD OF 'specielaw04.NatformBytes'. -/
def natformBytesCard : Claim7 := { stood := { row := natformBytesRow, standIns := [], harness := (true, "50ad9ea3aa6201c135bfd32b550309916875a256471ea93608365a047737de5f"), looks := false }, kinds := [], alts := [], laidByText := true, laidKinds := [.data, .data, .data], laidTests := true, laidLooks := .later }
def NatformBytesCardSaid : Prop := Claim7.holds Tryd.pinned (.plain (OpenSpec.ofChange natformBytesSpec)) natformBytesCard

/-- THE TIED CARD OF 'specielaw04.NatformTexts'. -/
def natformTextsCard : Claim7 := { stood := { row := natformTextsRow, standIns := [], harness := (true, "50ad9ea3aa6201c135bfd32b550309916875a256471ea93608365a047737de5f"), looks := false }, kinds := [], alts := [], laidByText := true, laidKinds := [.data, .data, .data], laidTests := true, laidLooks := .later }
def NatformTextsCardSaid : Prop := Claim7.holds Tryd.pinned (.plain (OpenSpec.ofChange natformTextsSpec)) natformTextsCard

/-- THE SECOND FORM's CARD OF 'specielaw04.NatformCanonical'. -/
def natformCanonicalUptoCard : Claim7 := { stood := { row := natformCanonicalUptoRow, standIns := [], harness := (true, "50ad9ea3aa6201c135bfd32b550309916875a256471ea93608365a047737de5f"), looks := false }, kinds := [], alts := [], laidByText := true, laidKinds := [.data, .data, .data], laidTests := true, laidLooks := .later }
def NatformCanonicalUptoCardSaid : Prop := Claim7.holds Tryd.pinned (.plain (OpenSpec.upto natformCanonicalSpec)) natformCanonicalUptoCard

/-- THE SECOND FORM's CARD OF 'specielaw04.NatformBack'. -/
def natformBackUptoCard : Claim7 := { stood := { row := natformBackUptoRow, standIns := [], harness := (true, "50ad9ea3aa6201c135bfd32b550309916875a256471ea93608365a047737de5f"), looks := false }, kinds := [], alts := [], laidByText := true, laidKinds := [.data, .data, .data], laidTests := true, laidLooks := .later }
def NatformBackUptoCardSaid : Prop := Claim7.holds Tryd.pinned (.plain (OpenSpec.upto natformBackSpec)) natformBackUptoCard

/-- THE SECOND FORM's CARD OF 'specielaw04.NatformDigits'. -/
def natformDigitsUptoCard : Claim7 := { stood := { row := natformDigitsUptoRow, standIns := [], harness := (true, "50ad9ea3aa6201c135bfd32b550309916875a256471ea93608365a047737de5f"), looks := false }, kinds := [], alts := [], laidByText := true, laidKinds := [.data, .data, .data], laidTests := true, laidLooks := .later }
def NatformDigitsUptoCardSaid : Prop := Claim7.holds Tryd.pinned (.plain (OpenSpec.upto natformDigitsSpec)) natformDigitsUptoCard

/-- THE SECOND FORM's CARD OF 'specielaw04.NatformParses'. -/
def natformParsesUptoCard : Claim7 := { stood := { row := natformParsesUptoRow, standIns := [], harness := (true, "50ad9ea3aa6201c135bfd32b550309916875a256471ea93608365a047737de5f"), looks := false }, kinds := [], alts := [], laidByText := true, laidKinds := [.data, .data, .data], laidTests := true, laidLooks := .later }
def NatformParsesUptoCardSaid : Prop := Claim7.holds Tryd.pinned (.plain (OpenSpec.upto natformParsesSpec)) natformParsesUptoCard

/-- THE SECOND FORM's CARD OF 'specielaw04.NatformBytes'. -/
def natformBytesUptoCard : Claim7 := { stood := { row := natformBytesUptoRow, standIns := [], harness := (true, "50ad9ea3aa6201c135bfd32b550309916875a256471ea93608365a047737de5f"), looks := false }, kinds := [], alts := [], laidByText := true, laidKinds := [.data, .data, .data], laidTests := true, laidLooks := .later }
def NatformBytesUptoCardSaid : Prop := Claim7.holds Tryd.pinned (.plain (OpenSpec.upto natformBytesSpec)) natformBytesUptoCard

/-- THE SECOND FORM's CARD OF 'specielaw04.NatformTexts'. -/
def natformTextsUptoCard : Claim7 := { stood := { row := natformTextsUptoRow, standIns := [], harness := (true, "50ad9ea3aa6201c135bfd32b550309916875a256471ea93608365a047737de5f"), looks := false }, kinds := [], alts := [], laidByText := true, laidKinds := [.data, .data, .data], laidTests := true, laidLooks := .later }
def NatformTextsUptoCardSaid : Prop := Claim7.holds Tryd.pinned (.plain (OpenSpec.upto natformTextsSpec)) natformTextsUptoCard
end Rows
end Go.Proofs.YtjaeblkgjbncmaaDoor
