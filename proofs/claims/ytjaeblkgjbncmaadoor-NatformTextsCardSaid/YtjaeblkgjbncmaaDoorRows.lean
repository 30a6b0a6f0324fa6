/-
  NARROWER THAN 'FOR EVERY INPUT', by the rows' own cells (each row's printed sentence says how): NatformCanonical: laid · NatformBack: laid · NatformDigits: laid · NatformParses: laid · NatformBytes: laid · NatformTexts: laid.
  DERIVED. THE GIVEN ROWS OF THIS SEAT. 6 by the template 'for every input the law returns true; each argument reads behind the call as it read before'; 0 by the template 'total and deterministic' (their statements: YtjaeblkgjbncmaaDoorTotals.lean).
  GIVEN WITH THE SEED: the statements are not yours to turn. If you find one false, say at which input.
  Laid BY PROGRAM, IN A SANDBOX (cutbox-rows.mjs): the forced cells as the released guide's own fill.sh prints them over the translation 1672f2a0981a2e8c… (all of the seat's roots in one cut). By AI agents, Wed Nov 11 2026. No macro, syntax, notation, axiom, sorry.
-/
import Derived.Test.YtjaeblkgjbncmaaDoorChecked
import GoSem.Claim
import GoSem.ClaimJoined
import GoSem.ClaimMapViews
import Derived.JoinedTies
import Derived.KernelRfl
namespace Go.Proofs.YtjaeblkgjbncmaaDoor
/- THE CELL 'sum', in the pinned program and in every row, IS THE sha256 OF THE DUMP (.gsa) THAT YtjaeblkgjbncmaaDoorProg.lean LOADS. Nothing in Lean hashes anything: it is a label: what it is worth is what the hold of that sum in a sandbox is worth. -/
noncomputable def Tryd.pinned : Pinned := { name := "ytjaeblkgjbncmaadoor", sum := "1672f2a0981a2e8cf52d2f99e6491753377933be18e0759c6938b71c5d026239", checked := Tryd.checked }
namespace Rows
def none {H : Type} : Left H := { results := [], args := [] }

/- WHAT THE LISTED PACKAGE-LEVEL VARIABLES READ AS WHEN THE CALL BEGINS. Each datum BY PROGRAM (the guide's laid-datum.mjs) off the statement by which the dump's own 'gosem.cut.vars' lays the variable. In a bare row this is a premise. The card (YtjaeblkgjbncmaaDoorCards.lean) ties it to the program's text. -/
def laid_math_bits_deBruijn32tab {H : Type} : DataW H := .agg [.lit (.int .u8 0), .lit (.int .u8 1), .lit (.int .u8 28), .lit (.int .u8 2), .lit (.int .u8 29), .lit (.int .u8 14), .lit (.int .u8 24), .lit (.int .u8 3), .lit (.int .u8 30), .lit (.int .u8 22), .lit (.int .u8 20), .lit (.int .u8 15), .lit (.int .u8 25), .lit (.int .u8 17), .lit (.int .u8 4), .lit (.int .u8 8), .lit (.int .u8 31), .lit (.int .u8 27), .lit (.int .u8 13), .lit (.int .u8 23), .lit (.int .u8 21), .lit (.int .u8 19), .lit (.int .u8 16), .lit (.int .u8 7), .lit (.int .u8 26), .lit (.int .u8 12), .lit (.int .u8 18), .lit (.int .u8 6), .lit (.int .u8 11), .lit (.int .u8 5), .lit (.int .u8 10), .lit (.int .u8 9)]
def laid_math_bits_deBruijn64tab {H : Type} : DataW H := .agg [.lit (.int .u8 0), .lit (.int .u8 1), .lit (.int .u8 56), .lit (.int .u8 2), .lit (.int .u8 57), .lit (.int .u8 49), .lit (.int .u8 28), .lit (.int .u8 3), .lit (.int .u8 61), .lit (.int .u8 58), .lit (.int .u8 42), .lit (.int .u8 50), .lit (.int .u8 38), .lit (.int .u8 29), .lit (.int .u8 17), .lit (.int .u8 4), .lit (.int .u8 62), .lit (.int .u8 47), .lit (.int .u8 59), .lit (.int .u8 36), .lit (.int .u8 45), .lit (.int .u8 43), .lit (.int .u8 51), .lit (.int .u8 22), .lit (.int .u8 53), .lit (.int .u8 39), .lit (.int .u8 33), .lit (.int .u8 30), .lit (.int .u8 24), .lit (.int .u8 18), .lit (.int .u8 12), .lit (.int .u8 5), .lit (.int .u8 63), .lit (.int .u8 55), .lit (.int .u8 48), .lit (.int .u8 27), .lit (.int .u8 60), .lit (.int .u8 41), .lit (.int .u8 37), .lit (.int .u8 16), .lit (.int .u8 46), .lit (.int .u8 35), .lit (.int .u8 44), .lit (.int .u8 21), .lit (.int .u8 52), .lit (.int .u8 32), .lit (.int .u8 23), .lit (.int .u8 11), .lit (.int .u8 54), .lit (.int .u8 26), .lit (.int .u8 40), .lit (.int .u8 15), .lit (.int .u8 34), .lit (.int .u8 20), .lit (.int .u8 31), .lit (.int .u8 10), .lit (.int .u8 25), .lit (.int .u8 14), .lit (.int .u8 19), .lit (.int .u8 9), .lit (.int .u8 13), .lit (.int .u8 8), .lit (.int .u8 7), .lit (.int .u8 6)]
def laid_internal_strconv_uint64pow10 {H : Type} : DataW H := .agg [.lit (.int .u64 1), .lit (.int .u64 10), .lit (.int .u64 100), .lit (.int .u64 1000), .lit (.int .u64 10000), .lit (.int .u64 100000), .lit (.int .u64 1000000), .lit (.int .u64 10000000), .lit (.int .u64 100000000), .lit (.int .u64 1000000000), .lit (.int .u64 10000000000), .lit (.int .u64 100000000000), .lit (.int .u64 1000000000000), .lit (.int .u64 10000000000000), .lit (.int .u64 100000000000000), .lit (.int .u64 1000000000000000), .lit (.int .u64 10000000000000000), .lit (.int .u64 100000000000000000), .lit (.int .u64 1000000000000000000), .lit (.int .u64 10000000000000000000)]

/-- 'specielaw04.NatformCanonical': WHATEVER THE INPUT: true; the input reads as it did. -/
def natformCanonicalSpec : ChangeSpec := { name := "natformCanonical", fn := fun _ => fun
  | [d1, d2] => { results := [.lit (.bool true)], args := [d1, d2] }
  | _ => none }
def natformCanonicalRow : OpenClaim := { program := "ytjaeblkgjbncmaadoor", sum := "1672f2a0981a2e8cf52d2f99e6491753377933be18e0759c6938b71c5d026239", func := "specie/specielaw04.NatformCanonical", spec := "natformCanonical", inPlace := ["internal/abi.NoEscape", "internal/bytealg.MakeNoZero"], named := ["internal/strconv.uint64pow10", "math/bits.deBruijn32tab", "math/bits.deBruijn64tab"], apart := false, laid := [("math/bits.deBruijn32tab", laid_math_bits_deBruijn32tab), ("math/bits.deBruijn64tab", laid_math_bits_deBruijn64tab), ("internal/strconv.uint64pow10", laid_internal_strconv_uint64pow10)] }
def NatformCanonicalSaid : Prop := natformCanonicalRow.holds Tryd.pinned (OpenSpec.ofChange natformCanonicalSpec)

/-- ITS FALSE NEIGHBOUR: 'it returns false'. Refute it at one input. -/
def natformCanonicalWrong : ChangeSpec := { name := "natformCanonical", fn := fun _ => fun
  | [d1, d2] => { results := [.lit (.bool false)], args := [d1, d2] }
  | _ => none }
def NatformCanonicalWrongFalsely : Prop := natformCanonicalRow.holds Tryd.pinned (OpenSpec.ofChange natformCanonicalWrong)

/-- 'specielaw04.NatformBack': WHATEVER THE INPUT: true; the input reads as it did. -/
def natformBackSpec : ChangeSpec := { name := "natformBack", fn := fun _ => fun
  | [d1, d2] => { results := [.lit (.bool true)], args := [d1, d2] }
  | _ => none }
def natformBackRow : OpenClaim := { program := "ytjaeblkgjbncmaadoor", sum := "1672f2a0981a2e8cf52d2f99e6491753377933be18e0759c6938b71c5d026239", func := "specie/specielaw04.NatformBack", spec := "natformBack", inPlace := ["internal/abi.NoEscape", "internal/bytealg.MakeNoZero"], named := ["internal/strconv.uint64pow10", "math/bits.deBruijn32tab", "math/bits.deBruijn64tab"], apart := false, laid := [("math/bits.deBruijn32tab", laid_math_bits_deBruijn32tab), ("math/bits.deBruijn64tab", laid_math_bits_deBruijn64tab), ("internal/strconv.uint64pow10", laid_internal_strconv_uint64pow10)] }
def NatformBackSaid : Prop := natformBackRow.holds Tryd.pinned (OpenSpec.ofChange natformBackSpec)

/-- ITS FALSE NEIGHBOUR: 'it returns false'. Refute it at one input. -/
def natformBackWrong : ChangeSpec := { name := "natformBack", fn := fun _ => fun
  | [d1, d2] => { results := [.lit (.bool false)], args := [d1, d2] }
  | _ => none }
def NatformBackWrongFalsely : Prop := natformBackRow.holds Tryd.pinned (OpenSpec.ofChange natformBackWrong)

/-- 'specielaw04.NatformDigits': WHATEVER THE INPUT: true; the input reads as it did. -/
def natformDigitsSpec : ChangeSpec := { name := "natformDigits", fn := fun _ => fun
  | [d] => { results := [.lit (.bool true)], args := [d] }
  | _ => none }
def natformDigitsRow : OpenClaim := { program := "ytjaeblkgjbncmaadoor", sum := "1672f2a0981a2e8cf52d2f99e6491753377933be18e0759c6938b71c5d026239", func := "specie/specielaw04.NatformDigits", spec := "natformDigits", inPlace := ["internal/abi.NoEscape", "internal/bytealg.MakeNoZero"], named := ["internal/strconv.uint64pow10", "math/bits.deBruijn32tab", "math/bits.deBruijn64tab"], apart := false, laid := [("math/bits.deBruijn32tab", laid_math_bits_deBruijn32tab), ("math/bits.deBruijn64tab", laid_math_bits_deBruijn64tab), ("internal/strconv.uint64pow10", laid_internal_strconv_uint64pow10)] }
def NatformDigitsSaid : Prop := natformDigitsRow.holds Tryd.pinned (OpenSpec.ofChange natformDigitsSpec)

/-- ITS FALSE NEIGHBOUR: 'it returns false'. Refute it at one input. -/
def natformDigitsWrong : ChangeSpec := { name := "natformDigits", fn := fun _ => fun
  | [d] => { results := [.lit (.bool false)], args := [d] }
  | _ => none }
def NatformDigitsWrongFalsely : Prop := natformDigitsRow.holds Tryd.pinned (OpenSpec.ofChange natformDigitsWrong)

/-- 'specielaw04.NatformParses': WHATEVER THE INPUT: true; the input reads as it did. -/
def natformParsesSpec : ChangeSpec := { name := "natformParses", fn := fun _ => fun
  | [d] => { results := [.lit (.bool true)], args := [d] }
  | _ => none }
def natformParsesRow : OpenClaim := { program := "ytjaeblkgjbncmaadoor", sum := "1672f2a0981a2e8cf52d2f99e6491753377933be18e0759c6938b71c5d026239", func := "specie/specielaw04.NatformParses", spec := "natformParses", inPlace := ["internal/abi.NoEscape", "internal/bytealg.MakeNoZero"], named := ["internal/strconv.uint64pow10", "math/bits.deBruijn32tab", "math/bits.deBruijn64tab"], apart := false, laid := [("math/bits.deBruijn32tab", laid_math_bits_deBruijn32tab), ("math/bits.deBruijn64tab", laid_math_bits_deBruijn64tab), ("internal/strconv.uint64pow10", laid_internal_strconv_uint64pow10)] }
def NatformParsesSaid : Prop := natformParsesRow.holds Tryd.pinned (OpenSpec.ofChange natformParsesSpec)

/-- ITS FALSE NEIGHBOUR: 'it returns false'. Refute it at one input. -/
def natformParsesWrong : ChangeSpec := { name := "natformParses", fn := fun _ => fun
  | [d] => { results := [.lit (.bool false)], args := [d] }
  | _ => none }
def NatformParsesWrongFalsely : Prop := natformParsesRow.holds Tryd.pinned (OpenSpec.ofChange natformParsesWrong)

/-- 'specielaw04.NatformBytes': WHATEVER THE INPUT: true; the input reads as it did. -/
def natformBytesSpec : ChangeSpec := { name := "natformBytes", fn := fun _ => fun
  | [d1, d2, d3] => { results := [.lit (.bool true)], args := [d1, d2, d3] }
  | _ => none }
def natformBytesRow : OpenClaim := { program := "ytjaeblkgjbncmaadoor", sum := "1672f2a0981a2e8cf52d2f99e6491753377933be18e0759c6938b71c5d026239", func := "specie/specielaw04.NatformBytes", spec := "natformBytes", inPlace := ["internal/abi.NoEscape", "internal/bytealg.MakeNoZero"], named := ["internal/strconv.uint64pow10", "math/bits.deBruijn32tab", "math/bits.deBruijn64tab"], apart := false, laid := [("math/bits.deBruijn32tab", laid_math_bits_deBruijn32tab), ("math/bits.deBruijn64tab", laid_math_bits_deBruijn64tab), ("internal/strconv.uint64pow10", laid_internal_strconv_uint64pow10)] }
def NatformBytesSaid : Prop := natformBytesRow.holds Tryd.pinned (OpenSpec.ofChange natformBytesSpec)

/-- ITS FALSE NEIGHBOUR: 'it returns false'. Refute it at one input. -/
def natformBytesWrong : ChangeSpec := { name := "natformBytes", fn := fun _ => fun
  | [d1, d2, d3] => { results := [.lit (.bool false)], args := [d1, d2, d3] }
  | _ => none }
def NatformBytesWrongFalsely : Prop := natformBytesRow.holds Tryd.pinned (OpenSpec.ofChange natformBytesWrong)

/-- 'specielaw04.NatformTexts': WHATEVER THE INPUT: true; the input reads as it did. -/
def natformTextsSpec : ChangeSpec := { name := "natformTexts", fn := fun _ => fun
  | [d] => { results := [.lit (.bool true)], args := [d] }
  | _ => none }
def natformTextsRow : OpenClaim := { program := "ytjaeblkgjbncmaadoor", sum := "1672f2a0981a2e8cf52d2f99e6491753377933be18e0759c6938b71c5d026239", func := "specie/specielaw04.NatformTexts", spec := "natformTexts", inPlace := ["internal/abi.NoEscape", "internal/bytealg.MakeNoZero"], named := ["internal/strconv.uint64pow10", "math/bits.deBruijn32tab", "math/bits.deBruijn64tab"], apart := false, laid := [("math/bits.deBruijn32tab", laid_math_bits_deBruijn32tab), ("math/bits.deBruijn64tab", laid_math_bits_deBruijn64tab), ("internal/strconv.uint64pow10", laid_internal_strconv_uint64pow10)] }
def NatformTextsSaid : Prop := natformTextsRow.holds Tryd.pinned (OpenSpec.ofChange natformTextsSpec)

/-- ITS FALSE NEIGHBOUR: 'it returns false'. Refute it at one input. -/
def natformTextsWrong : ChangeSpec := { name := "natformTexts", fn := fun _ => fun
  | [d] => { results := [.lit (.bool false)], args := [d] }
  | _ => none }
def NatformTextsWrongFalsely : Prop := natformTextsRow.holds Tryd.pinned (OpenSpec.ofChange natformTextsWrong)

/- THE SECOND FORM. 'bulk': how many values and letters a reading holds, each counted each time it is reached (what is shared counts as often as it is met; a slice's spare places count too). A statement '..UptoSaid' is the law's where the arguments, and the package variables that the reading takes, are together of bulk at most 1048576: NARROWER than '..Said'. Prove '..Said' where nothing that the law and all that it calls make is longer than what came in: it says more and counts as full. Else prove '..UptoSaid'. A law counts once. -/
mutual
def uptoBulk {H : Type} : DataW H → Nat
  | .lit (.string bytes) => bytes.length + 1
  | .lit _ => 1
  | .nil => 1
  | .ptr d => uptoBulk d + 1
  | .slice elems spare => uptoBulkAll elems + uptoBulkAll spare + 1
  | .agg parts => uptoBulkAll parts + 1
  | .iface _ d => uptoBulk d + 1
  | .map entries => uptoBulkEntries entries + 1
  | .held _ => 1
def uptoBulkAll {H : Type} : List (DataW H) → Nat
  | [] => 0
  | d :: r => uptoBulk d + uptoBulkAll r
def uptoBulkEntries {H : Type} : List (Lit × DataW H) → Nat
  | [] => 0
  | x :: r => uptoBulkEntry x + uptoBulkEntries r
def uptoBulkEntry {H : Type} : Lit × DataW H → Nat
  | (.string bytes, d) => bytes.length + uptoBulk d + 1
  | (_, d) => uptoBulk d + 1
 end
def uptoSmall : (H : Type) → List (DataW H) → Bool := fun _ ds => decide (uptoBulkAll ds ≤ 1048576)
def OpenSpec.upto (s : _root_.Go.ChangeSpec) : _root_.Go.OpenSpec := { _root_.Go.OpenSpec.ofChange s with cond := some uptoSmall }

/-- 'specielaw04.NatformCanonical', WHERE WHAT IT READS IS OF BULK AT MOST 1048576: true; the input reads as it did. -/
def natformCanonicalUptoRow : OpenClaim := { program := "ytjaeblkgjbncmaadoor", sum := "1672f2a0981a2e8cf52d2f99e6491753377933be18e0759c6938b71c5d026239", func := "specie/specielaw04.NatformCanonical", spec := "natformCanonical", inPlace := ["internal/abi.NoEscape", "internal/bytealg.MakeNoZero"], named := ["internal/strconv.uint64pow10", "math/bits.deBruijn32tab", "math/bits.deBruijn64tab"], apart := false, laid := [("math/bits.deBruijn32tab", laid_math_bits_deBruijn32tab), ("math/bits.deBruijn64tab", laid_math_bits_deBruijn64tab), ("internal/strconv.uint64pow10", laid_internal_strconv_uint64pow10)], narrowed := true }
def NatformCanonicalUptoSaid : Prop := natformCanonicalUptoRow.holds Tryd.pinned (OpenSpec.upto natformCanonicalSpec)

/-- 'specielaw04.NatformBack', WHERE WHAT IT READS IS OF BULK AT MOST 1048576: true; the input reads as it did. -/
def natformBackUptoRow : OpenClaim := { program := "ytjaeblkgjbncmaadoor", sum := "1672f2a0981a2e8cf52d2f99e6491753377933be18e0759c6938b71c5d026239", func := "specie/specielaw04.NatformBack", spec := "natformBack", inPlace := ["internal/abi.NoEscape", "internal/bytealg.MakeNoZero"], named := ["internal/strconv.uint64pow10", "math/bits.deBruijn32tab", "math/bits.deBruijn64tab"], apart := false, laid := [("math/bits.deBruijn32tab", laid_math_bits_deBruijn32tab), ("math/bits.deBruijn64tab", laid_math_bits_deBruijn64tab), ("internal/strconv.uint64pow10", laid_internal_strconv_uint64pow10)], narrowed := true }
def NatformBackUptoSaid : Prop := natformBackUptoRow.holds Tryd.pinned (OpenSpec.upto natformBackSpec)

/-- 'specielaw04.NatformDigits', WHERE WHAT IT READS IS OF BULK AT MOST 1048576: true; the input reads as it did. -/
def natformDigitsUptoRow : OpenClaim := { program := "ytjaeblkgjbncmaadoor", sum := "1672f2a0981a2e8cf52d2f99e6491753377933be18e0759c6938b71c5d026239", func := "specie/specielaw04.NatformDigits", spec := "natformDigits", inPlace := ["internal/abi.NoEscape", "internal/bytealg.MakeNoZero"], named := ["internal/strconv.uint64pow10", "math/bits.deBruijn32tab", "math/bits.deBruijn64tab"], apart := false, laid := [("math/bits.deBruijn32tab", laid_math_bits_deBruijn32tab), ("math/bits.deBruijn64tab", laid_math_bits_deBruijn64tab), ("internal/strconv.uint64pow10", laid_internal_strconv_uint64pow10)], narrowed := true }
def NatformDigitsUptoSaid : Prop := natformDigitsUptoRow.holds Tryd.pinned (OpenSpec.upto natformDigitsSpec)

/-- 'specielaw04.NatformParses', WHERE WHAT IT READS IS OF BULK AT MOST 1048576: true; the input reads as it did. -/
def natformParsesUptoRow : OpenClaim := { program := "ytjaeblkgjbncmaadoor", sum := "1672f2a0981a2e8cf52d2f99e6491753377933be18e0759c6938b71c5d026239", func := "specie/specielaw04.NatformParses", spec := "natformParses", inPlace := ["internal/abi.NoEscape", "internal/bytealg.MakeNoZero"], named := ["internal/strconv.uint64pow10", "math/bits.deBruijn32tab", "math/bits.deBruijn64tab"], apart := false, laid := [("math/bits.deBruijn32tab", laid_math_bits_deBruijn32tab), ("math/bits.deBruijn64tab", laid_math_bits_deBruijn64tab), ("internal/strconv.uint64pow10", laid_internal_strconv_uint64pow10)], narrowed := true }
def NatformParsesUptoSaid : Prop := natformParsesUptoRow.holds Tryd.pinned (OpenSpec.upto natformParsesSpec)

/-- 'specielaw04.NatformBytes', WHERE WHAT IT READS IS OF BULK AT MOST 1048576: true; the input reads as it did. -/
def natformBytesUptoRow : OpenClaim := { program := "ytjaeblkgjbncmaadoor", sum := "1672f2a0981a2e8cf52d2f99e6491753377933be18e0759c6938b71c5d026239", func := "specie/specielaw04.NatformBytes", spec := "natformBytes", inPlace := ["internal/abi.NoEscape", "internal/bytealg.MakeNoZero"], named := ["internal/strconv.uint64pow10", "math/bits.deBruijn32tab", "math/bits.deBruijn64tab"], apart := false, laid := [("math/bits.deBruijn32tab", laid_math_bits_deBruijn32tab), ("math/bits.deBruijn64tab", laid_math_bits_deBruijn64tab), ("internal/strconv.uint64pow10", laid_internal_strconv_uint64pow10)], narrowed := true }
def NatformBytesUptoSaid : Prop := natformBytesUptoRow.holds Tryd.pinned (OpenSpec.upto natformBytesSpec)

/-- 'specielaw04.NatformTexts', WHERE WHAT IT READS IS OF BULK AT MOST 1048576: true; the input reads as it did. -/
def natformTextsUptoRow : OpenClaim := { program := "ytjaeblkgjbncmaadoor", sum := "1672f2a0981a2e8cf52d2f99e6491753377933be18e0759c6938b71c5d026239", func := "specie/specielaw04.NatformTexts", spec := "natformTexts", inPlace := ["internal/abi.NoEscape", "internal/bytealg.MakeNoZero"], named := ["internal/strconv.uint64pow10", "math/bits.deBruijn32tab", "math/bits.deBruijn64tab"], apart := false, laid := [("math/bits.deBruijn32tab", laid_math_bits_deBruijn32tab), ("math/bits.deBruijn64tab", laid_math_bits_deBruijn64tab), ("internal/strconv.uint64pow10", laid_internal_strconv_uint64pow10)], narrowed := true }
def NatformTextsUptoSaid : Prop := natformTextsUptoRow.holds Tryd.pinned (OpenSpec.upto natformTextsSpec)

end Rows
end Go.Proofs.YtjaeblkgjbncmaaDoor
