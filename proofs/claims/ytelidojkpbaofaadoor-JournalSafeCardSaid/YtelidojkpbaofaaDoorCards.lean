/-
  DERIVED. GIVEN WITH THE SEED: THE CARDS: each row of YtelidojkpbaofaaDoorRows.lean that lists a variable, with what it lists TIED to the program's text (the seventh form; the later family's looks); each row that meets fmt, with fmt's text TOLD by the authors' own Lean function (tested against real Go, not proved from fmt's source: count such statements apart). THE CARD IS WHAT COUNTS. Prove the row's statement (the work); the ties are given (YtelidojkpbaofaaDoorTie.lean); close each card by the builder's one call (the guide's Derived/Test/ToyasCard.lean, 'card_holds'). Laid BY PROGRAM, IN A SANDBOX (cutbox-door.mjs). By AI agents, Wed Nov 11 2026. No macro, syntax, notation, axiom, sorry.
-/
import Derived.Test.YtelidojkpbaofaaDoorRows
import GoSem.ClaimSeven
namespace Go.Proofs.YtelidojkpbaofaaDoor
namespace Rows

/-- THE TIED CARD OF 'specielaw41.JournalAppends'. -/
def journalAppendsCard : Claim7 := { stood := { row := journalAppendsRow, standIns := [], harness := (true, "e2ca8b6cd336f9739a4a70aa15d85a284fc6c613485fe534c672dfff7e1def56"), looks := false }, kinds := [], alts := [], laidByText := true, laidKinds := [.data, .data], laidTests := true, laidLooks := .later }
def JournalAppendsCardSaid : Prop := Claim7.holds Tryd.pinned (.plain (OpenSpec.ofChange journalAppendsSpec)) journalAppendsCard

/-- THE TIED CARD OF 'specielaw41.JournalReads'. -/
def journalReadsCard : Claim7 := { stood := { row := journalReadsRow, standIns := [], harness := (true, "e2ca8b6cd336f9739a4a70aa15d85a284fc6c613485fe534c672dfff7e1def56"), looks := false }, kinds := [], alts := [], laidByText := true, laidKinds := [.data, .data], laidTests := true, laidLooks := .later }
def JournalReadsCardSaid : Prop := Claim7.holds Tryd.pinned (.plain (OpenSpec.ofChange journalReadsSpec)) journalReadsCard

/-- THE TIED CARD OF 'specielaw41.JournalCrashes'. -/
def journalCrashesCard : Claim7 := { stood := { row := journalCrashesRow, standIns := [], harness := (true, "e2ca8b6cd336f9739a4a70aa15d85a284fc6c613485fe534c672dfff7e1def56"), looks := false }, kinds := [], alts := [], laidByText := true, laidKinds := [.data, .data], laidTests := true, laidLooks := .later }
def JournalCrashesCardSaid : Prop := Claim7.holds Tryd.pinned (.plain (OpenSpec.ofChange journalCrashesSpec)) journalCrashesCard

/-- THE TIED CARD OF 'specielaw41.JournalRewrites'. -/
def journalRewritesCard : Claim7 := { stood := { row := journalRewritesRow, standIns := [], harness := (true, "e2ca8b6cd336f9739a4a70aa15d85a284fc6c613485fe534c672dfff7e1def56"), looks := false }, kinds := [], alts := [], laidByText := true, laidKinds := [.data, .data], laidTests := true, laidLooks := .later }
def JournalRewritesCardSaid : Prop := Claim7.holds Tryd.pinned (.plain (OpenSpec.ofChange journalRewritesSpec)) journalRewritesCard

/-- THE TIED CARD OF 'specielaw41.JournalBack'. -/
def journalBackCard : Claim7 := { stood := { row := journalBackRow, standIns := [], harness := (true, "e2ca8b6cd336f9739a4a70aa15d85a284fc6c613485fe534c672dfff7e1def56"), looks := false }, kinds := [], alts := [], laidByText := true, laidKinds := [.data, .data], laidTests := true, laidLooks := .later }
def JournalBackCardSaid : Prop := Claim7.holds Tryd.pinned (.plain (OpenSpec.ofChange journalBackSpec)) journalBackCard

/-- THE TIED CARD OF 'specielaw41.JournalTorn'. -/
def journalTornCard : Claim7 := { stood := { row := journalTornRow, standIns := [], harness := (true, "e2ca8b6cd336f9739a4a70aa15d85a284fc6c613485fe534c672dfff7e1def56"), looks := false }, kinds := [], alts := [], laidByText := true, laidKinds := [.data, .data], laidTests := true, laidLooks := .later }
def JournalTornCardSaid : Prop := Claim7.holds Tryd.pinned (.plain (OpenSpec.ofChange journalTornSpec)) journalTornCard

/-- THE TIED CARD OF 'specielaw41.JournalSafe'. -/
def journalSafeCard : Claim7 := { stood := { row := journalSafeRow, standIns := [], harness := (true, "e2ca8b6cd336f9739a4a70aa15d85a284fc6c613485fe534c672dfff7e1def56"), looks := false }, kinds := [], alts := [], laidByText := true, laidKinds := [.data, .data], laidTests := true, laidLooks := .later }
def JournalSafeCardSaid : Prop := Claim7.holds Tryd.pinned (.plain (OpenSpec.ofChange journalSafeSpec)) journalSafeCard

/-- THE SECOND FORM's CARD OF 'specielaw41.JournalAppends'. -/
def journalAppendsUptoCard : Claim7 := { stood := { row := journalAppendsUptoRow, standIns := [], harness := (true, "e2ca8b6cd336f9739a4a70aa15d85a284fc6c613485fe534c672dfff7e1def56"), looks := false }, kinds := [], alts := [], laidByText := true, laidKinds := [.data, .data], laidTests := true, laidLooks := .later }
def JournalAppendsUptoCardSaid : Prop := Claim7.holds Tryd.pinned (.plain (OpenSpec.upto journalAppendsSpec)) journalAppendsUptoCard

/-- THE SECOND FORM's CARD OF 'specielaw41.JournalReads'. -/
def journalReadsUptoCard : Claim7 := { stood := { row := journalReadsUptoRow, standIns := [], harness := (true, "e2ca8b6cd336f9739a4a70aa15d85a284fc6c613485fe534c672dfff7e1def56"), looks := false }, kinds := [], alts := [], laidByText := true, laidKinds := [.data, .data], laidTests := true, laidLooks := .later }
def JournalReadsUptoCardSaid : Prop := Claim7.holds Tryd.pinned (.plain (OpenSpec.upto journalReadsSpec)) journalReadsUptoCard

/-- THE SECOND FORM's CARD OF 'specielaw41.JournalCrashes'. -/
def journalCrashesUptoCard : Claim7 := { stood := { row := journalCrashesUptoRow, standIns := [], harness := (true, "e2ca8b6cd336f9739a4a70aa15d85a284fc6c613485fe534c672dfff7e1def56"), looks := false }, kinds := [], alts := [], laidByText := true, laidKinds := [.data, .data], laidTests := true, laidLooks := .later }
def JournalCrashesUptoCardSaid : Prop := Claim7.holds Tryd.pinned (.plain (OpenSpec.upto journalCrashesSpec)) journalCrashesUptoCard

/-- THE SECOND FORM's CARD OF 'specielaw41.JournalRewrites'. -/
def journalRewritesUptoCard : Claim7 := { stood := { row := journalRewritesUptoRow, standIns := [], harness := (true, "e2ca8b6cd336f9739a4a70aa15d85a284fc6c613485fe534c672dfff7e1def56"), looks := false }, kinds := [], alts := [], laidByText := true, laidKinds := [.data, .data], laidTests := true, laidLooks := .later }
def JournalRewritesUptoCardSaid : Prop := Claim7.holds Tryd.pinned (.plain (OpenSpec.upto journalRewritesSpec)) journalRewritesUptoCard

/-- THE SECOND FORM's CARD OF 'specielaw41.JournalBack'. -/
def journalBackUptoCard : Claim7 := { stood := { row := journalBackUptoRow, standIns := [], harness := (true, "e2ca8b6cd336f9739a4a70aa15d85a284fc6c613485fe534c672dfff7e1def56"), looks := false }, kinds := [], alts := [], laidByText := true, laidKinds := [.data, .data], laidTests := true, laidLooks := .later }
def JournalBackUptoCardSaid : Prop := Claim7.holds Tryd.pinned (.plain (OpenSpec.upto journalBackSpec)) journalBackUptoCard

/-- THE SECOND FORM's CARD OF 'specielaw41.JournalTorn'. -/
def journalTornUptoCard : Claim7 := { stood := { row := journalTornUptoRow, standIns := [], harness := (true, "e2ca8b6cd336f9739a4a70aa15d85a284fc6c613485fe534c672dfff7e1def56"), looks := false }, kinds := [], alts := [], laidByText := true, laidKinds := [.data, .data], laidTests := true, laidLooks := .later }
def JournalTornUptoCardSaid : Prop := Claim7.holds Tryd.pinned (.plain (OpenSpec.upto journalTornSpec)) journalTornUptoCard

/-- THE SECOND FORM's CARD OF 'specielaw41.JournalSafe'. -/
def journalSafeUptoCard : Claim7 := { stood := { row := journalSafeUptoRow, standIns := [], harness := (true, "e2ca8b6cd336f9739a4a70aa15d85a284fc6c613485fe534c672dfff7e1def56"), looks := false }, kinds := [], alts := [], laidByText := true, laidKinds := [.data, .data], laidTests := true, laidLooks := .later }
def JournalSafeUptoCardSaid : Prop := Claim7.holds Tryd.pinned (.plain (OpenSpec.upto journalSafeSpec)) journalSafeUptoCard
end Rows
end Go.Proofs.YtelidojkpbaofaaDoor
