/-
  DERIVED. GIVEN WITH THE SEED: THE CARDS: each row of YtkbbbflojebfgaaDoorRows.lean that lists a variable, with what it lists TIED to the program's text (the seventh form; the later family's looks); each row that meets fmt, with fmt's text TOLD by the authors' own Lean function (tested against real Go, not proved from fmt's source: count such statements apart). THE CARD IS WHAT COUNTS. Prove the row's statement (the work); the ties are given (YtkbbbflojebfgaaDoorTie.lean); close each card by the builder's one call (the guide's Derived/Test/ToyasCard.lean, 'card_holds'). Laid BY PROGRAM, IN A SANDBOX (cutbox-door.mjs). By AI agents, Wed Nov 11 2026. No macro, syntax, notation, axiom, sorry.
-/
import Derived.Test.YtkbbbflojebfgaaDoorRows
import GoSem.ClaimSeven
namespace Go.Proofs.YtkbbbflojebfgaaDoor
namespace Rows

/-- THE TIED CARD OF 'specielaw08.TranscriptRemainders'. -/
def transcriptRemaindersCard : Claim7 := { stood := { row := transcriptRemaindersRow, standIns := [], harness := (true, "c9daa5694c653aa0ce38212cb456b94913a999a3a0c5e3b7c478dde6fa3e3e18"), looks := false }, kinds := [], alts := [], laidByText := true, laidKinds := [.data, .data], laidTests := true, laidLooks := .later }
def TranscriptRemaindersCardSaid : Prop := Claim7.holds Tryd.pinned (.plain (OpenSpec.ofChange transcriptRemaindersSpec)) transcriptRemaindersCard

/-- THE TIED CARD OF 'specielaw08.TranscriptCounts'. -/
def transcriptCountsCard : Claim7 := { stood := { row := transcriptCountsRow, standIns := [], harness := (true, "c9daa5694c653aa0ce38212cb456b94913a999a3a0c5e3b7c478dde6fa3e3e18"), looks := false }, kinds := [], alts := [], laidByText := true, laidKinds := [.data, .data], laidTests := true, laidLooks := .later }
def TranscriptCountsCardSaid : Prop := Claim7.holds Tryd.pinned (.plain (OpenSpec.ofChange transcriptCountsSpec)) transcriptCountsCard

/-- THE TIED CARD OF 'specielaw08.TranscriptChallenges'. -/
def transcriptChallengesCard : Claim7 := { stood := { row := transcriptChallengesRow, standIns := [], harness := (true, "c9daa5694c653aa0ce38212cb456b94913a999a3a0c5e3b7c478dde6fa3e3e18"), looks := false }, kinds := [], alts := [], laidByText := true, laidKinds := [.data, .data], laidTests := true, laidLooks := .later }
def TranscriptChallengesCardSaid : Prop := Claim7.holds Tryd.pinned (.plain (OpenSpec.ofChange transcriptChallengesSpec)) transcriptChallengesCard

/-- THE SECOND FORM's CARD OF 'specielaw08.TranscriptRemainders'. -/
def transcriptRemaindersUptoCard : Claim7 := { stood := { row := transcriptRemaindersUptoRow, standIns := [], harness := (true, "c9daa5694c653aa0ce38212cb456b94913a999a3a0c5e3b7c478dde6fa3e3e18"), looks := false }, kinds := [], alts := [], laidByText := true, laidKinds := [.data, .data], laidTests := true, laidLooks := .later }
def TranscriptRemaindersUptoCardSaid : Prop := Claim7.holds Tryd.pinned (.plain (OpenSpec.upto transcriptRemaindersSpec)) transcriptRemaindersUptoCard

/-- THE SECOND FORM's CARD OF 'specielaw08.TranscriptCounts'. -/
def transcriptCountsUptoCard : Claim7 := { stood := { row := transcriptCountsUptoRow, standIns := [], harness := (true, "c9daa5694c653aa0ce38212cb456b94913a999a3a0c5e3b7c478dde6fa3e3e18"), looks := false }, kinds := [], alts := [], laidByText := true, laidKinds := [.data, .data], laidTests := true, laidLooks := .later }
def TranscriptCountsUptoCardSaid : Prop := Claim7.holds Tryd.pinned (.plain (OpenSpec.upto transcriptCountsSpec)) transcriptCountsUptoCard

/-- THE SECOND FORM's CARD OF 'specielaw08.TranscriptChallenges'. -/
def transcriptChallengesUptoCard : Claim7 := { stood := { row := transcriptChallengesUptoRow, standIns := [], harness := (true, "c9daa5694c653aa0ce38212cb456b94913a999a3a0c5e3b7c478dde6fa3e3e18"), looks := false }, kinds := [], alts := [], laidByText := true, laidKinds := [.data, .data], laidTests := true, laidLooks := .later }
def TranscriptChallengesUptoCardSaid : Prop := Claim7.holds Tryd.pinned (.plain (OpenSpec.upto transcriptChallengesSpec)) transcriptChallengesUptoCard
end Rows
end Go.Proofs.YtkbbbflojebfgaaDoor
