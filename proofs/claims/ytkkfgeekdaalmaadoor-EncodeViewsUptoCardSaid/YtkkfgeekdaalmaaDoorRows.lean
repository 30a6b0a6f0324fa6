/-
  NARROWER THAN 'FOR EVERY INPUT', by the rows' own cells (each row's printed sentence says how): EncodeForms: loops, laid · EncodeDecodes: laid · EncodeSequences: loops, laid · EncodeOwn: laid · EncodeBack: loops, laid · EncodeApart: loops, laid · EncodeViews: loops, laid.
  DERIVED. THE GIVEN ROWS OF THIS SEAT. 7 by the template 'for every input the law returns true; each argument reads behind the call as it read before'; 0 by the template 'total and deterministic' (their statements: YtkkfgeekdaalmaaDoorTotals.lean).
  GIVEN WITH THE SEED: the statements are not yours to turn. If you find one false, say at which input.
  Laid BY PROGRAM, IN A SANDBOX (cutbox-rows.mjs): the forced cells as the released guide's own fill.sh prints them over the translation 304e180512f7eaf5… (all of the seat's roots in one cut). By AI agents, Wed Nov 11 2026. No macro, syntax, notation, axiom, sorry.
-/
import Derived.Test.YtkkfgeekdaalmaaDoorChecked
import GoSem.Claim
import GoSem.ClaimJoined
import GoSem.ClaimMapViews
import Derived.JoinedTies
import Derived.KernelRfl
namespace Go.Proofs.YtkkfgeekdaalmaaDoor
/- THE CELL 'sum', in the pinned program and in every row, IS THE sha256 OF THE DUMP (.gsa) THAT YtkkfgeekdaalmaaDoorProg.lean LOADS. Nothing in Lean hashes anything: it is a label: what it is worth is what the hold of that sum in a sandbox is worth. -/
noncomputable def Tryd.pinned : Pinned := { name := "ytkkfgeekdaalmaadoor", sum := "304e180512f7eaf502e7a8642ade6f4c86e1ca4cc8748b432eebdcd179c8e6ee", checked := Tryd.checked }
namespace Rows
def none {H : Type} : Left H := { results := [], args := [] }

/- WHAT THE LISTED PACKAGE-LEVEL VARIABLES READ AS WHEN THE CALL BEGINS. Each datum BY PROGRAM (the guide's laid-datum.mjs) off the statement by which the dump's own 'gosem.cut.vars' lays the variable. In a bare row this is a premise. The card (YtkkfgeekdaalmaaDoorCards.lean) ties it to the program's text. -/
def laid_math_bits_deBruijn32tab {H : Type} : DataW H := .agg [.lit (.int .u8 0), .lit (.int .u8 1), .lit (.int .u8 28), .lit (.int .u8 2), .lit (.int .u8 29), .lit (.int .u8 14), .lit (.int .u8 24), .lit (.int .u8 3), .lit (.int .u8 30), .lit (.int .u8 22), .lit (.int .u8 20), .lit (.int .u8 15), .lit (.int .u8 25), .lit (.int .u8 17), .lit (.int .u8 4), .lit (.int .u8 8), .lit (.int .u8 31), .lit (.int .u8 27), .lit (.int .u8 13), .lit (.int .u8 23), .lit (.int .u8 21), .lit (.int .u8 19), .lit (.int .u8 16), .lit (.int .u8 7), .lit (.int .u8 26), .lit (.int .u8 12), .lit (.int .u8 18), .lit (.int .u8 6), .lit (.int .u8 11), .lit (.int .u8 5), .lit (.int .u8 10), .lit (.int .u8 9)]
def laid_math_bits_deBruijn64tab {H : Type} : DataW H := .agg [.lit (.int .u8 0), .lit (.int .u8 1), .lit (.int .u8 56), .lit (.int .u8 2), .lit (.int .u8 57), .lit (.int .u8 49), .lit (.int .u8 28), .lit (.int .u8 3), .lit (.int .u8 61), .lit (.int .u8 58), .lit (.int .u8 42), .lit (.int .u8 50), .lit (.int .u8 38), .lit (.int .u8 29), .lit (.int .u8 17), .lit (.int .u8 4), .lit (.int .u8 62), .lit (.int .u8 47), .lit (.int .u8 59), .lit (.int .u8 36), .lit (.int .u8 45), .lit (.int .u8 43), .lit (.int .u8 51), .lit (.int .u8 22), .lit (.int .u8 53), .lit (.int .u8 39), .lit (.int .u8 33), .lit (.int .u8 30), .lit (.int .u8 24), .lit (.int .u8 18), .lit (.int .u8 12), .lit (.int .u8 5), .lit (.int .u8 63), .lit (.int .u8 55), .lit (.int .u8 48), .lit (.int .u8 27), .lit (.int .u8 60), .lit (.int .u8 41), .lit (.int .u8 37), .lit (.int .u8 16), .lit (.int .u8 46), .lit (.int .u8 35), .lit (.int .u8 44), .lit (.int .u8 21), .lit (.int .u8 52), .lit (.int .u8 32), .lit (.int .u8 23), .lit (.int .u8 11), .lit (.int .u8 54), .lit (.int .u8 26), .lit (.int .u8 40), .lit (.int .u8 15), .lit (.int .u8 34), .lit (.int .u8 20), .lit (.int .u8 31), .lit (.int .u8 10), .lit (.int .u8 25), .lit (.int .u8 14), .lit (.int .u8 19), .lit (.int .u8 9), .lit (.int .u8 13), .lit (.int .u8 8), .lit (.int .u8 7), .lit (.int .u8 6)]
def laid_internal_strconv_uint64pow10 {H : Type} : DataW H := .agg [.lit (.int .u64 1), .lit (.int .u64 10), .lit (.int .u64 100), .lit (.int .u64 1000), .lit (.int .u64 10000), .lit (.int .u64 100000), .lit (.int .u64 1000000), .lit (.int .u64 10000000), .lit (.int .u64 100000000), .lit (.int .u64 1000000000), .lit (.int .u64 10000000000), .lit (.int .u64 100000000000), .lit (.int .u64 1000000000000), .lit (.int .u64 10000000000000), .lit (.int .u64 100000000000000), .lit (.int .u64 1000000000000000), .lit (.int .u64 10000000000000000), .lit (.int .u64 100000000000000000), .lit (.int .u64 1000000000000000000), .lit (.int .u64 10000000000000000000)]

/-- 'specielaw07.EncodeForms': WHATEVER THE INPUT: true; the input reads as it did. -/
def encodeFormsSpec : ChangeSpec := { name := "encodeForms", fn := fun _ => fun
  | [d] => { results := [.lit (.bool true)], args := [d] }
  | _ => none }
def encodeFormsRow : OpenClaim := { program := "ytkkfgeekdaalmaadoor", sum := "304e180512f7eaf502e7a8642ade6f4c86e1ca4cc8748b432eebdcd179c8e6ee", func := "specie/specielaw07.EncodeForms", spec := "encodeForms", unfollowed := true, recurses := true, named := ["internal/strconv.uint64pow10", "math/bits.deBruijn32tab", "math/bits.deBruijn64tab"], loops := true, apart := false, laid := [("math/bits.deBruijn32tab", laid_math_bits_deBruijn32tab), ("math/bits.deBruijn64tab", laid_math_bits_deBruijn64tab), ("internal/strconv.uint64pow10", laid_internal_strconv_uint64pow10)] }
def EncodeFormsSaid : Prop := encodeFormsRow.holds Tryd.pinned (OpenSpec.ofChange encodeFormsSpec)

/-- ITS FALSE NEIGHBOUR: 'it returns false'. Refute it at one input. -/
def encodeFormsWrong : ChangeSpec := { name := "encodeForms", fn := fun _ => fun
  | [d] => { results := [.lit (.bool false)], args := [d] }
  | _ => none }
def EncodeFormsWrongFalsely : Prop := encodeFormsRow.holds Tryd.pinned (OpenSpec.ofChange encodeFormsWrong)

/-- 'specielaw07.EncodeDecodes': WHATEVER THE INPUT: true; the input reads as it did. -/
def encodeDecodesSpec : ChangeSpec := { name := "encodeDecodes", fn := fun _ => fun
  | [d] => { results := [.lit (.bool true)], args := [d] }
  | _ => none }
def encodeDecodesRow : OpenClaim := { program := "ytkkfgeekdaalmaadoor", sum := "304e180512f7eaf502e7a8642ade6f4c86e1ca4cc8748b432eebdcd179c8e6ee", func := "specie/specielaw07.EncodeDecodes", spec := "encodeDecodes", unfollowed := true, recurses := true, named := ["internal/strconv.uint64pow10", "math/bits.deBruijn32tab", "math/bits.deBruijn64tab"], apart := false, laid := [("math/bits.deBruijn32tab", laid_math_bits_deBruijn32tab), ("math/bits.deBruijn64tab", laid_math_bits_deBruijn64tab), ("internal/strconv.uint64pow10", laid_internal_strconv_uint64pow10)] }
def EncodeDecodesSaid : Prop := encodeDecodesRow.holds Tryd.pinned (OpenSpec.ofChange encodeDecodesSpec)

/-- ITS FALSE NEIGHBOUR: 'it returns false'. Refute it at one input. -/
def encodeDecodesWrong : ChangeSpec := { name := "encodeDecodes", fn := fun _ => fun
  | [d] => { results := [.lit (.bool false)], args := [d] }
  | _ => none }
def EncodeDecodesWrongFalsely : Prop := encodeDecodesRow.holds Tryd.pinned (OpenSpec.ofChange encodeDecodesWrong)

/-- 'specielaw07.EncodeSequences': WHATEVER THE INPUT: true; the input reads as it did. -/
def encodeSequencesSpec : ChangeSpec := { name := "encodeSequences", fn := fun _ => fun
  | [d] => { results := [.lit (.bool true)], args := [d] }
  | _ => none }
def encodeSequencesRow : OpenClaim := { program := "ytkkfgeekdaalmaadoor", sum := "304e180512f7eaf502e7a8642ade6f4c86e1ca4cc8748b432eebdcd179c8e6ee", func := "specie/specielaw07.EncodeSequences", spec := "encodeSequences", unfollowed := true, recurses := true, named := ["internal/strconv.uint64pow10", "math/bits.deBruijn32tab", "math/bits.deBruijn64tab"], loops := true, apart := false, laid := [("math/bits.deBruijn32tab", laid_math_bits_deBruijn32tab), ("math/bits.deBruijn64tab", laid_math_bits_deBruijn64tab), ("internal/strconv.uint64pow10", laid_internal_strconv_uint64pow10)] }
def EncodeSequencesSaid : Prop := encodeSequencesRow.holds Tryd.pinned (OpenSpec.ofChange encodeSequencesSpec)

/-- ITS FALSE NEIGHBOUR: 'it returns false'. Refute it at one input. -/
def encodeSequencesWrong : ChangeSpec := { name := "encodeSequences", fn := fun _ => fun
  | [d] => { results := [.lit (.bool false)], args := [d] }
  | _ => none }
def EncodeSequencesWrongFalsely : Prop := encodeSequencesRow.holds Tryd.pinned (OpenSpec.ofChange encodeSequencesWrong)

/-- 'specielaw07.EncodeOwn': WHATEVER THE INPUT: true; the input reads as it did. -/
def encodeOwnSpec : ChangeSpec := { name := "encodeOwn", fn := fun _ => fun
  | [d] => { results := [.lit (.bool true)], args := [d] }
  | _ => none }
def encodeOwnRow : OpenClaim := { program := "ytkkfgeekdaalmaadoor", sum := "304e180512f7eaf502e7a8642ade6f4c86e1ca4cc8748b432eebdcd179c8e6ee", func := "specie/specielaw07.EncodeOwn", spec := "encodeOwn", unfollowed := true, recurses := true, named := ["internal/strconv.uint64pow10", "math/bits.deBruijn32tab", "math/bits.deBruijn64tab"], apart := false, laid := [("math/bits.deBruijn32tab", laid_math_bits_deBruijn32tab), ("math/bits.deBruijn64tab", laid_math_bits_deBruijn64tab), ("internal/strconv.uint64pow10", laid_internal_strconv_uint64pow10)] }
def EncodeOwnSaid : Prop := encodeOwnRow.holds Tryd.pinned (OpenSpec.ofChange encodeOwnSpec)

/-- ITS FALSE NEIGHBOUR: 'it returns false'. Refute it at one input. -/
def encodeOwnWrong : ChangeSpec := { name := "encodeOwn", fn := fun _ => fun
  | [d] => { results := [.lit (.bool false)], args := [d] }
  | _ => none }
def EncodeOwnWrongFalsely : Prop := encodeOwnRow.holds Tryd.pinned (OpenSpec.ofChange encodeOwnWrong)

/-- 'specielaw07.EncodeBack': WHATEVER THE INPUT: true; the input reads as it did. -/
def encodeBackSpec : ChangeSpec := { name := "encodeBack", fn := fun _ => fun
  | [d1, d2] => { results := [.lit (.bool true)], args := [d1, d2] }
  | _ => none }
def encodeBackRow : OpenClaim := { program := "ytkkfgeekdaalmaadoor", sum := "304e180512f7eaf502e7a8642ade6f4c86e1ca4cc8748b432eebdcd179c8e6ee", func := "specie/specielaw07.EncodeBack", spec := "encodeBack", unfollowed := true, recurses := true, named := ["internal/strconv.uint64pow10", "math/bits.deBruijn32tab", "math/bits.deBruijn64tab"], loops := true, apart := false, laid := [("math/bits.deBruijn32tab", laid_math_bits_deBruijn32tab), ("math/bits.deBruijn64tab", laid_math_bits_deBruijn64tab), ("internal/strconv.uint64pow10", laid_internal_strconv_uint64pow10)] }
def EncodeBackSaid : Prop := encodeBackRow.holds Tryd.pinned (OpenSpec.ofChange encodeBackSpec)

/-- ITS FALSE NEIGHBOUR: 'it returns false'. Refute it at one input. -/
def encodeBackWrong : ChangeSpec := { name := "encodeBack", fn := fun _ => fun
  | [d1, d2] => { results := [.lit (.bool false)], args := [d1, d2] }
  | _ => none }
def EncodeBackWrongFalsely : Prop := encodeBackRow.holds Tryd.pinned (OpenSpec.ofChange encodeBackWrong)

/-- 'specielaw07.EncodeApart': WHATEVER THE INPUT: true; the input reads as it did. -/
def encodeApartSpec : ChangeSpec := { name := "encodeApart", fn := fun _ => fun
  | [d1, d2] => { results := [.lit (.bool true)], args := [d1, d2] }
  | _ => none }
def encodeApartRow : OpenClaim := { program := "ytkkfgeekdaalmaadoor", sum := "304e180512f7eaf502e7a8642ade6f4c86e1ca4cc8748b432eebdcd179c8e6ee", func := "specie/specielaw07.EncodeApart", spec := "encodeApart", unfollowed := true, recurses := true, named := ["internal/strconv.uint64pow10", "math/bits.deBruijn32tab", "math/bits.deBruijn64tab"], loops := true, apart := false, laid := [("math/bits.deBruijn32tab", laid_math_bits_deBruijn32tab), ("math/bits.deBruijn64tab", laid_math_bits_deBruijn64tab), ("internal/strconv.uint64pow10", laid_internal_strconv_uint64pow10)] }
def EncodeApartSaid : Prop := encodeApartRow.holds Tryd.pinned (OpenSpec.ofChange encodeApartSpec)

/-- ITS FALSE NEIGHBOUR: 'it returns false'. Refute it at one input. -/
def encodeApartWrong : ChangeSpec := { name := "encodeApart", fn := fun _ => fun
  | [d1, d2] => { results := [.lit (.bool false)], args := [d1, d2] }
  | _ => none }
def EncodeApartWrongFalsely : Prop := encodeApartRow.holds Tryd.pinned (OpenSpec.ofChange encodeApartWrong)

/-- 'specielaw07.EncodeViews': WHATEVER THE INPUT: true; the input reads as it did. -/
def encodeViewsSpec : ChangeSpec := { name := "encodeViews", fn := fun _ => fun
  | [d1, d2, d3] => { results := [.lit (.bool true)], args := [d1, d2, d3] }
  | _ => none }
def encodeViewsRow : OpenClaim := { program := "ytkkfgeekdaalmaadoor", sum := "304e180512f7eaf502e7a8642ade6f4c86e1ca4cc8748b432eebdcd179c8e6ee", func := "specie/specielaw07.EncodeViews", spec := "encodeViews", unfollowed := true, recurses := true, named := ["internal/strconv.uint64pow10", "math/bits.deBruijn32tab", "math/bits.deBruijn64tab"], loops := true, apart := false, laid := [("math/bits.deBruijn32tab", laid_math_bits_deBruijn32tab), ("math/bits.deBruijn64tab", laid_math_bits_deBruijn64tab), ("internal/strconv.uint64pow10", laid_internal_strconv_uint64pow10)] }
def EncodeViewsSaid : Prop := encodeViewsRow.holds Tryd.pinned (OpenSpec.ofChange encodeViewsSpec)

/-- ITS FALSE NEIGHBOUR: 'it returns false'. Refute it at one input. -/
def encodeViewsWrong : ChangeSpec := { name := "encodeViews", fn := fun _ => fun
  | [d1, d2, d3] => { results := [.lit (.bool false)], args := [d1, d2, d3] }
  | _ => none }
def EncodeViewsWrongFalsely : Prop := encodeViewsRow.holds Tryd.pinned (OpenSpec.ofChange encodeViewsWrong)

/- THE SECOND FORM. 'bulk': how many values and letters a reading holds, each counted each time it is reached (what is shared counts as often as it is met; a slice's spare places count too). A statement '..UptoSaid' is the law's where the arguments, and the package variables that the reading takes, are together of bulk at most 1048576: NARROWER than '..Said'. Prove '..Said' where nothing that the law and all that it calls make is longer than what came in: it says more and counts as full. Else prove '..UptoSaid'. A law counts once. -/
mutual
def uptoBulk {H : Type} : DataW H → Nat
  | .lit (.string bytes) => bytes.length + 1
  | .lit _ => 1
  | .nil => 1
  | .ptr d => uptoBulk d + 1
  | .slice elems spare => uptoBulkAll elems + uptoBulkAll spare + 1
  | .agg parts => uptoBulkAll parts + 1
  | .iface _ d => uptoBulk d + 1
  | .map entries => uptoBulkEntries entries + 1
  | .held _ => 1
def uptoBulkAll {H : Type} : List (DataW H) → Nat
  | [] => 0
  | d :: r => uptoBulk d + uptoBulkAll r
def uptoBulkEntries {H : Type} : List (Lit × DataW H) → Nat
  | [] => 0
  | x :: r => uptoBulkEntry x + uptoBulkEntries r
def uptoBulkEntry {H : Type} : Lit × DataW H → Nat
  | (.string bytes, d) => bytes.length + uptoBulk d + 1
  | (_, d) => uptoBulk d + 1
 end
def uptoSmall : (H : Type) → List (DataW H) → Bool := fun _ ds => decide (uptoBulkAll ds ≤ 1048576)
def OpenSpec.upto (s : _root_.Go.ChangeSpec) : _root_.Go.OpenSpec := { _root_.Go.OpenSpec.ofChange s with cond := some uptoSmall }

/-- 'specielaw07.EncodeForms', WHERE WHAT IT READS IS OF BULK AT MOST 1048576: true; the input reads as it did. -/
def encodeFormsUptoRow : OpenClaim := { program := "ytkkfgeekdaalmaadoor", sum := "304e180512f7eaf502e7a8642ade6f4c86e1ca4cc8748b432eebdcd179c8e6ee", func := "specie/specielaw07.EncodeForms", spec := "encodeForms", unfollowed := true, recurses := true, named := ["internal/strconv.uint64pow10", "math/bits.deBruijn32tab", "math/bits.deBruijn64tab"], loops := true, apart := false, laid := [("math/bits.deBruijn32tab", laid_math_bits_deBruijn32tab), ("math/bits.deBruijn64tab", laid_math_bits_deBruijn64tab), ("internal/strconv.uint64pow10", laid_internal_strconv_uint64pow10)], narrowed := true }
def EncodeFormsUptoSaid : Prop := encodeFormsUptoRow.holds Tryd.pinned (OpenSpec.upto encodeFormsSpec)

/-- 'specielaw07.EncodeDecodes', WHERE WHAT IT READS IS OF BULK AT MOST 1048576: true; the input reads as it did. -/
def encodeDecodesUptoRow : OpenClaim := { program := "ytkkfgeekdaalmaadoor", sum := "304e180512f7eaf502e7a8642ade6f4c86e1ca4cc8748b432eebdcd179c8e6ee", func := "specie/specielaw07.EncodeDecodes", spec := "encodeDecodes", unfollowed := true, recurses := true, named := ["internal/strconv.uint64pow10", "math/bits.deBruijn32tab", "math/bits.deBruijn64tab"], apart := false, laid := [("math/bits.deBruijn32tab", laid_math_bits_deBruijn32tab), ("math/bits.deBruijn64tab", laid_math_bits_deBruijn64tab), ("internal/strconv.uint64pow10", laid_internal_strconv_uint64pow10)], narrowed := true }
def EncodeDecodesUptoSaid : Prop := encodeDecodesUptoRow.holds Tryd.pinned (OpenSpec.upto encodeDecodesSpec)

/-- 'specielaw07.EncodeSequences', WHERE WHAT IT READS IS OF BULK AT MOST 1048576: true; the input reads as it did. -/
def encodeSequencesUptoRow : OpenClaim := { program := "ytkkfgeekdaalmaadoor", sum := "304e180512f7eaf502e7a8642ade6f4c86e1ca4cc8748b432eebdcd179c8e6ee", func := "specie/specielaw07.EncodeSequences", spec := "encodeSequences", unfollowed := true, recurses := true, named := ["internal/strconv.uint64pow10", "math/bits.deBruijn32tab", "math/bits.deBruijn64tab"], loops := true, apart := false, laid := [("math/bits.deBruijn32tab", laid_math_bits_deBruijn32tab), ("math/bits.deBruijn64tab", laid_math_bits_deBruijn64tab), ("internal/strconv.uint64pow10", laid_internal_strconv_uint64pow10)], narrowed := true }
def EncodeSequencesUptoSaid : Prop := encodeSequencesUptoRow.holds Tryd.pinned (OpenSpec.upto encodeSequencesSpec)

/-- 'specielaw07.EncodeOwn', WHERE WHAT IT READS IS OF BULK AT MOST 1048576: true; the input reads as it did. -/
def encodeOwnUptoRow : OpenClaim := { program := "ytkkfgeekdaalmaadoor", sum := "304e180512f7eaf502e7a8642ade6f4c86e1ca4cc8748b432eebdcd179c8e6ee", func := "specie/specielaw07.EncodeOwn", spec := "encodeOwn", unfollowed := true, recurses := true, named := ["internal/strconv.uint64pow10", "math/bits.deBruijn32tab", "math/bits.deBruijn64tab"], apart := false, laid := [("math/bits.deBruijn32tab", laid_math_bits_deBruijn32tab), ("math/bits.deBruijn64tab", laid_math_bits_deBruijn64tab), ("internal/strconv.uint64pow10", laid_internal_strconv_uint64pow10)], narrowed := true }
def EncodeOwnUptoSaid : Prop := encodeOwnUptoRow.holds Tryd.pinned (OpenSpec.upto encodeOwnSpec)

/-- 'specielaw07.EncodeBack', WHERE WHAT IT READS IS OF BULK AT MOST 1048576: true; the input reads as it did. -/
def encodeBackUptoRow : OpenClaim := { program := "ytkkfgeekdaalmaadoor", sum := "304e180512f7eaf502e7a8642ade6f4c86e1ca4cc8748b432eebdcd179c8e6ee", func := "specie/specielaw07.EncodeBack", spec := "encodeBack", unfollowed := true, recurses := true, named := ["internal/strconv.uint64pow10", "math/bits.deBruijn32tab", "math/bits.deBruijn64tab"], loops := true, apart := false, laid := [("math/bits.deBruijn32tab", laid_math_bits_deBruijn32tab), ("math/bits.deBruijn64tab", laid_math_bits_deBruijn64tab), ("internal/strconv.uint64pow10", laid_internal_strconv_uint64pow10)], narrowed := true }
def EncodeBackUptoSaid : Prop := encodeBackUptoRow.holds Tryd.pinned (OpenSpec.upto encodeBackSpec)

/-- 'specielaw07.EncodeApart', WHERE WHAT IT READS IS OF BULK AT MOST 1048576: true; the input reads as it did. -/
def encodeApartUptoRow : OpenClaim := { program := "ytkkfgeekdaalmaadoor", sum := "304e180512f7eaf502e7a8642ade6f4c86e1ca4cc8748b432eebdcd179c8e6ee", func := "specie/specielaw07.EncodeApart", spec := "encodeApart", unfollowed := true, recurses := true, named := ["internal/strconv.uint64pow10", "math/bits.deBruijn32tab", "math/bits.deBruijn64tab"], loops := true, apart := false, laid := [("math/bits.deBruijn32tab", laid_math_bits_deBruijn32tab), ("math/bits.deBruijn64tab", laid_math_bits_deBruijn64tab), ("internal/strconv.uint64pow10", laid_internal_strconv_uint64pow10)], narrowed := true }
def EncodeApartUptoSaid : Prop := encodeApartUptoRow.holds Tryd.pinned (OpenSpec.upto encodeApartSpec)

/-- 'specielaw07.EncodeViews', WHERE WHAT IT READS IS OF BULK AT MOST 1048576: true; the input reads as it did. -/
def encodeViewsUptoRow : OpenClaim := { program := "ytkkfgeekdaalmaadoor", sum := "304e180512f7eaf502e7a8642ade6f4c86e1ca4cc8748b432eebdcd179c8e6ee", func := "specie/specielaw07.EncodeViews", spec := "encodeViews", unfollowed := true, recurses := true, named := ["internal/strconv.uint64pow10", "math/bits.deBruijn32tab", "math/bits.deBruijn64tab"], loops := true, apart := false, laid := [("math/bits.deBruijn32tab", laid_math_bits_deBruijn32tab), ("math/bits.deBruijn64tab", laid_math_bits_deBruijn64tab), ("internal/strconv.uint64pow10", laid_internal_strconv_uint64pow10)], narrowed := true }
def EncodeViewsUptoSaid : Prop := encodeViewsUptoRow.holds Tryd.pinned (OpenSpec.upto encodeViewsSpec)

end Rows
end Go.Proofs.YtkkfgeekdaalmaaDoor
