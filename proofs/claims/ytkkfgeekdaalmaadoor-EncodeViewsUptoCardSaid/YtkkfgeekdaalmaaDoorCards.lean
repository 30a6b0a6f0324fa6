/-
  DERIVED. GIVEN WITH THE SEED: THE CARDS: each row of YtkkfgeekdaalmaaDoorRows.lean that lists a variable, with what it lists TIED to the program's text (the seventh form; the later family's looks); each row that meets fmt, with fmt's text TOLD by the authors' own Lean function (tested against real Go, not proved from fmt's source: count such statements apart). THE CARD IS WHAT COUNTS. Prove the row's statement (the work); the ties are given (YtkkfgeekdaalmaaDoorTie.lean); close each card by the builder's one call (the guide's Derived/Test/ToyasCard.lean, 'card_holds'). Laid BY PROGRAM, IN A SANDBOX (cutbox-door.mjs). By AI agents, Wed Nov 11 2026. No macro, syntax, notation, axiom, sorry.
-/
import Derived.Test.YtkkfgeekdaalmaaDoorRows
import GoSem.ClaimSeven
namespace Go.Proofs.YtkkfgeekdaalmaaDoor
namespace Rows

/-- THE TIED CARD OF 'specielaw07.EncodeForms'. -/
def encodeFormsCard : Claim7 := { stood := { row := encodeFormsRow, standIns := [], harness := (true, "4370ec11e90c938894e1fd964864e385fb1b668d90bca99edf7b3b62276c35cd"), looks := false }, kinds := [], alts := [], laidByText := true, laidKinds := [.data, .data, .data], laidTests := true, laidLooks := .later }
def EncodeFormsCardSaid : Prop := Claim7.holds Tryd.pinned (.plain (OpenSpec.ofChange encodeFormsSpec)) encodeFormsCard

/-- THE TIED CARD OF 'specielaw07.EncodeDecodes'. -/
def encodeDecodesCard : Claim7 := { stood := { row := encodeDecodesRow, standIns := [], harness := (true, "4370ec11e90c938894e1fd964864e385fb1b668d90bca99edf7b3b62276c35cd"), looks := false }, kinds := [], alts := [], laidByText := true, laidKinds := [.data, .data, .data], laidTests := true, laidLooks := .later }
def EncodeDecodesCardSaid : Prop := Claim7.holds Tryd.pinned (.plain (OpenSpec.ofChange encodeDecodesSpec)) encodeDecodesCard

/-- THE TIED CARD OF 'specielaw07.EncodeSequences'. -/
def encodeSequencesCard : Claim7 := { stood := { row := encodeSequencesRow, standIns := [], harness := (true, "4370ec11e90c938894e1fd964864e385fb1b668d90bca99edf7b3b62276c35cd"), looks := false }, kinds := [], alts := [], laidByText := true, laidKinds := [.data, .data, .data], laidTests := true, laidLooks := .later }
def EncodeSequencesCardSaid : Prop := Claim7.holds Tryd.pinned (.plain (OpenSpec.ofChange encodeSequencesSpec)) encodeSequencesCard

/-- THE TIED CARD OF 'specielaw07.EncodeOwn'. -/
def encodeOwnCard : Claim7 := { stood := { row := encodeOwnRow, standIns := [], harness := (true, "4370ec11e90c938894e1fd964864e385fb1b668d90bca99edf7b3b62276c35cd"), looks := false }, kinds := [], alts := [], laidByText := true, laidKinds := [.data, .data, .data], laidTests := true, laidLooks := .later }
def EncodeOwnCardSaid : Prop := Claim7.holds Tryd.pinned (.plain (OpenSpec.ofChange encodeOwnSpec)) encodeOwnCard

/-- THE TIED CARD OF 'specielaw07.EncodeBack'. -/
def encodeBackCard : Claim7 := { stood := { row := encodeBackRow, standIns := [], harness := (true, "4370ec11e90c938894e1fd964864e385fb1b668d90bca99edf7b3b62276c35cd"), looks := false }, kinds := [], alts := [], laidByText := true, laidKinds := [.data, .data, .data], laidTests := true, laidLooks := .later }
def EncodeBackCardSaid : Prop := Claim7.holds Tryd.pinned (.plain (OpenSpec.ofChange encodeBackSpec)) encodeBackCard

/-- THE TIED CARD OF 'specielaw07.EncodeApart'. -/
def encodeApartCard : Claim7 := { stood := { row := encodeApartRow, standIns := [], harness := (true, "4370ec11e90c938894e1fd964864e385fb1b668d90bca99edf7b3b62276c35cd"), looks := false }, kinds := [], alts := [], laidByText := true, laidKinds := [.data, .data, .data], laidTests := true, laidLooks := .later }
def EncodeApartCardSaid : Prop := Claim7.holds Tryd.pinned (.plain (OpenSpec.ofChange encodeApartSpec)) encodeApartCard

/-- THE TIED CARD OF 'specielaw07.EncodeViews'. -/
def encodeViewsCard : Claim7 := { stood := { row := encodeViewsRow, standIns := [], harness := (true, "4370ec11e90c938894e1fd964864e385fb1b668d90bca99edf7b3b62276c35cd"), looks := false }, kinds := [], alts := [], laidByText := true, laidKinds := [.data, .data, .data], laidTests := true, laidLooks := .later }
def EncodeViewsCardSaid : Prop := Claim7.holds Tryd.pinned (.plain (OpenSpec.ofChange encodeViewsSpec)) encodeViewsCard

/-- THE SECOND FORM's CARD OF 'specielaw07.EncodeForms'. -/
def encodeFormsUptoCard : Claim7 := { stood := { row := encodeFormsUptoRow, standIns := [], harness := (true, "4370ec11e90c938894e1fd964864e385fb1b668d90bca99edf7b3b62276c35cd"), looks := false }, kinds := [], alts := [], laidByText := true, laidKinds := [.data, .data, .data], laidTests := true, laidLooks := .later }
def EncodeFormsUptoCardSaid : Prop := Claim7.holds Tryd.pinned (.plain (OpenSpec.upto encodeFormsSpec)) encodeFormsUptoCard

/-- THE SECOND FORM's CARD OF 'specielaw07.EncodeDecodes'. -/
def encodeDecodesUptoCard : Claim7 := { stood := { row := encodeDecodesUptoRow, standIns := [], harness := (true, "4370ec11e90c938894e1fd964864e385fb1b668d90bca99edf7b3b62276c35cd"), looks := false }, kinds := [], alts := [], laidByText := true, laidKinds := [.data, .data, .data], laidTests := true, laidLooks := .later }
def EncodeDecodesUptoCardSaid : Prop := Claim7.holds Tryd.pinned (.plain (OpenSpec.upto encodeDecodesSpec)) encodeDecodesUptoCard

/-- THE SECOND FORM's CARD OF 'specielaw07.EncodeSequences'. -/
def encodeSequencesUptoCard : Claim7 := { stood := { row := encodeSequencesUptoRow, standIns := [], harness := (true, "4370ec11e90c938894e1fd964864e385fb1b668d90bca99edf7b3b62276c35cd"), looks := false }, kinds := [], alts := [], laidByText := true, laidKinds := [.data, .data, .data], laidTests := true, laidLooks := .later }
def EncodeSequencesUptoCardSaid : Prop := Claim7.holds Tryd.pinned (.plain (OpenSpec.upto encodeSequencesSpec)) encodeSequencesUptoCard

/-- THE SECOND FORM's CARD OF 'specielaw07.EncodeOwn'. -/
def encodeOwnUptoCard : Claim7 := { stood := { row := encodeOwnUptoRow, standIns := [], harness := (true, "4370ec11e90c938894e1fd964864e385fb1b668d90bca99edf7b3b62276c35cd"), looks := false }, kinds := [], alts := [], laidByText := true, laidKinds := [.data, .data, .data], laidTests := true, laidLooks := .later }
def EncodeOwnUptoCardSaid : Prop := Claim7.holds Tryd.pinned (.plain (OpenSpec.upto encodeOwnSpec)) encodeOwnUptoCard

/-- THE SECOND FORM's CARD OF 'specielaw07.EncodeBack'. -/
def encodeBackUptoCard : Claim7 := { stood := { row := encodeBackUptoRow, standIns := [], harness := (true, "4370ec11e90c938894e1fd964864e385fb1b668d90bca99edf7b3b62276c35cd"), looks := false }, kinds := [], alts := [], laidByText := true, laidKinds := [.data, .data, .data], laidTests := true, laidLooks := .later }
def EncodeBackUptoCardSaid : Prop := Claim7.holds Tryd.pinned (.plain (OpenSpec.upto encodeBackSpec)) encodeBackUptoCard

/-- THE SECOND FORM's CARD OF 'specielaw07.EncodeApart'. -/
def encodeApartUptoCard : Claim7 := { stood := { row := encodeApartUptoRow, standIns := [], harness := (true, "4370ec11e90c938894e1fd964864e385fb1b668d90bca99edf7b3b62276c35cd"), looks := false }, kinds := [], alts := [], laidByText := true, laidKinds := [.data, .data, .data], laidTests := true, laidLooks := .later }
def EncodeApartUptoCardSaid : Prop := Claim7.holds Tryd.pinned (.plain (OpenSpec.upto encodeApartSpec)) encodeApartUptoCard

/-- THE SECOND FORM's CARD OF 'specielaw07.EncodeViews'. -/
def encodeViewsUptoCard : Claim7 := { stood := { row := encodeViewsUptoRow, standIns := [], harness := (true, "4370ec11e90c938894e1fd964864e385fb1b668d90bca99edf7b3b62276c35cd"), looks := false }, kinds := [], alts := [], laidByText := true, laidKinds := [.data, .data, .data], laidTests := true, laidLooks := .later }
def EncodeViewsUptoCardSaid : Prop := Claim7.holds Tryd.pinned (.plain (OpenSpec.upto encodeViewsSpec)) encodeViewsUptoCard
end Rows
end Go.Proofs.YtkkfgeekdaalmaaDoor
