/-
  NARROWER THAN 'FOR EVERY INPUT', by the rows' own cells (each row's printed sentence says how): Base64MatchesReference: laid · Base64Encodes: laid · Base64Digits: laid · Base64Joins: laid · Base64Changes: laid · FaultWraps: laid.
  DERIVED. THE GIVEN ROWS OF THIS SEAT. 6 by the template 'for every input the law returns true; each argument reads behind the call as it read before'; 0 by the template 'total and deterministic' (their statements: YtnidoimhlfcifaaDoorTotals.lean).
  GIVEN WITH THE SEED: the statements are not yours to turn. If you find one false, say at which input.
  Laid BY PROGRAM, IN A SANDBOX (cutbox-rows.mjs): the forced cells as the released guide's own fill.sh prints them over the translation 938981fcec98c1f9… (all of the seat's roots in one cut). By AI agents, Wed Nov 11 2026. No macro, syntax, notation, axiom, sorry.
-/
import Derived.Test.YtnidoimhlfcifaaDoorChecked
import GoSem.PinnedTables
import GoSem.Claim
import GoSem.ClaimJoined
import GoSem.ClaimMapViews
import Derived.JoinedTies
import Derived.KernelRfl
namespace Go.Proofs.YtnidoimhlfcifaaDoor
/- THE CELL 'sum', in the pinned program and in every row, IS THE sha256 OF THE DUMP (.gsa) THAT YtnidoimhlfcifaaDoorProg.lean LOADS. Nothing in Lean hashes anything: it is a label: what it is worth is what the hold of that sum in a sandbox is worth. -/
noncomputable def Tryd.pinned : Pinned := { name := "ytnidoimhlfcifaadoor", sum := "938981fcec98c1f9d8bbd9171a5f94c6dda08199e403ca9e4c01804779bae286", checked := Tryd.checked }
namespace Rows
def none {H : Type} : Left H := { results := [], args := [] }

/- WHAT THE LISTED PACKAGE-LEVEL VARIABLES READ AS WHEN THE CALL BEGINS. Each datum BY PROGRAM (the guide's laid-datum.mjs) off the statement by which the dump's own 'gosem.cut.vars' lays the variable. In a bare row this is a premise. The card (YtnidoimhlfcifaaDoorCards.lean) ties it to the program's text. -/
def laid_unicode_utf8_acceptRanges {H : Type} : DataW H := .agg [.agg [.lit (.int .u8 128), .lit (.int .u8 191)], .agg [.lit (.int .u8 160), .lit (.int .u8 191)], .agg [.lit (.int .u8 128), .lit (.int .u8 159)], .agg [.lit (.int .u8 144), .lit (.int .u8 191)], .agg [.lit (.int .u8 128), .lit (.int .u8 143)], .agg [.lit (.int .u8 0), .lit (.int .u8 0)], .agg [.lit (.int .u8 0), .lit (.int .u8 0)], .agg [.lit (.int .u8 0), .lit (.int .u8 0)], .agg [.lit (.int .u8 0), .lit (.int .u8 0)], .agg [.lit (.int .u8 0), .lit (.int .u8 0)], .agg [.lit (.int .u8 0), .lit (.int .u8 0)], .agg [.lit (.int .u8 0), .lit (.int .u8 0)], .agg [.lit (.int .u8 0), .lit (.int .u8 0)], .agg [.lit (.int .u8 0), .lit (.int .u8 0)], .agg [.lit (.int .u8 0), .lit (.int .u8 0)], .agg [.lit (.int .u8 0), .lit (.int .u8 0)]]
/-- One of Go's own tables, pinned by name: the form's constant. -/
def laid_unicode_utf8_first : DataW Unit := Go.Pinned.utf8First
def laid_errors_errorType {H : Type} : DataW H := .iface "internal/reflectlite.rtype" (.agg [.ptr (.lit (.string [101, 114, 114, 111, 114]))])
def laid_pyx_fault_names {H : Type} : DataW H := .agg [.lit (.string []), .lit (.string [116, 111, 111, 32, 108, 111, 110, 103]), .lit (.string [116, 111, 111, 32, 100, 101, 101, 112]), .lit (.string [116, 114, 117, 110, 99, 97, 116, 101, 100]), .lit (.string [116, 114, 97, 105, 108, 105, 110, 103]), .lit (.string [115, 121, 110, 116, 97, 120]), .lit (.string [108, 101, 110, 103, 116, 104]), .lit (.string [111, 114, 100, 101, 114]), .lit (.string [117, 110, 107, 110, 111, 119, 110]), .lit (.string [114, 97, 110, 103, 101]), .lit (.string [104, 105, 110, 116]), .lit (.string [105, 110, 99, 111, 110, 115, 105, 115, 116, 101, 110, 116]), .lit (.string [98, 97, 100, 32, 111, 98, 106, 101, 99, 116]), .lit (.string [98, 117, 100, 103, 101, 116])]

/-- 'pyxlaw04.Base64MatchesReference': WHATEVER THE INPUT: true; the input reads as it did. -/
def base64MatchesReferenceSpec : ChangeSpec := { name := "base64MatchesReference", fn := fun _ => fun
  | [d1, d2] => { results := [.lit (.bool true)], args := [d1, d2] }
  | _ => none }
def base64MatchesReferenceRow : OpenClaim := { program := "ytnidoimhlfcifaadoor", sum := "938981fcec98c1f9d8bbd9171a5f94c6dda08199e403ca9e4c01804779bae286", func := "pyx/pyxlaw04.Base64MatchesReference", spec := "base64MatchesReference", inPlace := ["internal/bytealg.IndexByteString", "internal/bytealg.IndexString", "internal/abi.NoEscape"], named := ["unicode/utf8.first", "unicode/utf8.acceptRanges", "internal/bytealg.MaxLen"], apart := false, laid := [("unicode/utf8.acceptRanges", laid_unicode_utf8_acceptRanges), ("unicode/utf8.first", laid_unicode_utf8_first)] }
def Base64MatchesReferenceSaid : Prop := base64MatchesReferenceRow.holds Tryd.pinned (OpenSpec.ofChange base64MatchesReferenceSpec)

/-- ITS FALSE NEIGHBOUR: 'it returns false'. Refute it at one input. -/
def base64MatchesReferenceWrong : ChangeSpec := { name := "base64MatchesReference", fn := fun _ => fun
  | [d1, d2] => { results := [.lit (.bool false)], args := [d1, d2] }
  | _ => none }
def Base64MatchesReferenceWrongFalsely : Prop := base64MatchesReferenceRow.holds Tryd.pinned (OpenSpec.ofChange base64MatchesReferenceWrong)

/-- 'pyxlaw04.Base64Encodes': WHATEVER THE INPUT: true; the input reads as it did. -/
def base64EncodesSpec : ChangeSpec := { name := "base64Encodes", fn := fun _ => fun
  | [d1, d2] => { results := [.lit (.bool true)], args := [d1, d2] }
  | _ => none }
def base64EncodesRow : OpenClaim := { program := "ytnidoimhlfcifaadoor", sum := "938981fcec98c1f9d8bbd9171a5f94c6dda08199e403ca9e4c01804779bae286", func := "pyx/pyxlaw04.Base64Encodes", spec := "base64Encodes", inPlace := ["internal/bytealg.IndexByteString", "internal/bytealg.IndexString", "internal/abi.NoEscape"], named := ["unicode/utf8.first", "unicode/utf8.acceptRanges", "internal/bytealg.MaxLen"], apart := false, laid := [("unicode/utf8.acceptRanges", laid_unicode_utf8_acceptRanges), ("unicode/utf8.first", laid_unicode_utf8_first)] }
def Base64EncodesSaid : Prop := base64EncodesRow.holds Tryd.pinned (OpenSpec.ofChange base64EncodesSpec)

/-- ITS FALSE NEIGHBOUR: 'it returns false'. Refute it at one input. -/
def base64EncodesWrong : ChangeSpec := { name := "base64Encodes", fn := fun _ => fun
  | [d1, d2] => { results := [.lit (.bool false)], args := [d1, d2] }
  | _ => none }
def Base64EncodesWrongFalsely : Prop := base64EncodesRow.holds Tryd.pinned (OpenSpec.ofChange base64EncodesWrong)

/-- 'pyxlaw04.Base64Digits': WHATEVER THE INPUT: true; the input reads as it did. -/
def base64DigitsSpec : ChangeSpec := { name := "base64Digits", fn := fun _ => fun
  | [d1, d2, d3] => { results := [.lit (.bool true)], args := [d1, d2, d3] }
  | _ => none }
def base64DigitsRow : OpenClaim := { program := "ytnidoimhlfcifaadoor", sum := "938981fcec98c1f9d8bbd9171a5f94c6dda08199e403ca9e4c01804779bae286", func := "pyx/pyxlaw04.Base64Digits", spec := "base64Digits", inPlace := ["internal/bytealg.IndexByteString", "internal/bytealg.IndexString", "internal/abi.NoEscape"], named := ["unicode/utf8.first", "unicode/utf8.acceptRanges", "internal/bytealg.MaxLen"], apart := false, laid := [("unicode/utf8.acceptRanges", laid_unicode_utf8_acceptRanges), ("unicode/utf8.first", laid_unicode_utf8_first)] }
def Base64DigitsSaid : Prop := base64DigitsRow.holds Tryd.pinned (OpenSpec.ofChange base64DigitsSpec)

/-- ITS FALSE NEIGHBOUR: 'it returns false'. Refute it at one input. -/
def base64DigitsWrong : ChangeSpec := { name := "base64Digits", fn := fun _ => fun
  | [d1, d2, d3] => { results := [.lit (.bool false)], args := [d1, d2, d3] }
  | _ => none }
def Base64DigitsWrongFalsely : Prop := base64DigitsRow.holds Tryd.pinned (OpenSpec.ofChange base64DigitsWrong)

/-- 'pyxlaw04.Base64Joins': WHATEVER THE INPUT: true; the input reads as it did. -/
def base64JoinsSpec : ChangeSpec := { name := "base64Joins", fn := fun _ => fun
  | [d1, d2, d3] => { results := [.lit (.bool true)], args := [d1, d2, d3] }
  | _ => none }
def base64JoinsRow : OpenClaim := { program := "ytnidoimhlfcifaadoor", sum := "938981fcec98c1f9d8bbd9171a5f94c6dda08199e403ca9e4c01804779bae286", func := "pyx/pyxlaw04.Base64Joins", spec := "base64Joins", inPlace := ["internal/bytealg.IndexByteString", "internal/bytealg.IndexString", "internal/abi.NoEscape"], named := ["unicode/utf8.first", "unicode/utf8.acceptRanges", "internal/bytealg.MaxLen"], apart := false, laid := [("unicode/utf8.acceptRanges", laid_unicode_utf8_acceptRanges), ("unicode/utf8.first", laid_unicode_utf8_first)] }
def Base64JoinsSaid : Prop := base64JoinsRow.holds Tryd.pinned (OpenSpec.ofChange base64JoinsSpec)

/-- ITS FALSE NEIGHBOUR: 'it returns false'. Refute it at one input. -/
def base64JoinsWrong : ChangeSpec := { name := "base64Joins", fn := fun _ => fun
  | [d1, d2, d3] => { results := [.lit (.bool false)], args := [d1, d2, d3] }
  | _ => none }
def Base64JoinsWrongFalsely : Prop := base64JoinsRow.holds Tryd.pinned (OpenSpec.ofChange base64JoinsWrong)

/-- 'pyxlaw04.Base64Changes': WHATEVER THE INPUT: true; the input reads as it did. -/
def base64ChangesSpec : ChangeSpec := { name := "base64Changes", fn := fun _ => fun
  | [d1, d2, d3, d4] => { results := [.lit (.bool true)], args := [d1, d2, d3, d4] }
  | _ => none }
def base64ChangesRow : OpenClaim := { program := "ytnidoimhlfcifaadoor", sum := "938981fcec98c1f9d8bbd9171a5f94c6dda08199e403ca9e4c01804779bae286", func := "pyx/pyxlaw04.Base64Changes", spec := "base64Changes", inPlace := ["internal/bytealg.IndexByteString", "internal/bytealg.IndexString", "internal/abi.NoEscape"], named := ["unicode/utf8.first", "unicode/utf8.acceptRanges", "internal/bytealg.MaxLen"], apart := false, laid := [("unicode/utf8.acceptRanges", laid_unicode_utf8_acceptRanges), ("unicode/utf8.first", laid_unicode_utf8_first)] }
def Base64ChangesSaid : Prop := base64ChangesRow.holds Tryd.pinned (OpenSpec.ofChange base64ChangesSpec)

/-- ITS FALSE NEIGHBOUR: 'it returns false'. Refute it at one input. -/
def base64ChangesWrong : ChangeSpec := { name := "base64Changes", fn := fun _ => fun
  | [d1, d2, d3, d4] => { results := [.lit (.bool false)], args := [d1, d2, d3, d4] }
  | _ => none }
def Base64ChangesWrongFalsely : Prop := base64ChangesRow.holds Tryd.pinned (OpenSpec.ofChange base64ChangesWrong)

/-- 'pyxlaw02.FaultWraps': WHATEVER THE INPUT: true; the input reads as it did. -/
def faultWrapsSpec : ChangeSpec := { name := "faultWraps", fn := fun _ => fun
  | [d1, d2, d3] => { results := [.lit (.bool true)], args := [d1, d2, d3] }
  | _ => none }
def faultWrapsRow : OpenClaim := { program := "ytnidoimhlfcifaadoor", sum := "938981fcec98c1f9d8bbd9171a5f94c6dda08199e403ca9e4c01804779bae286", func := "pyx/pyxlaw02.FaultWraps", spec := "faultWraps", inPlace := ["internal/reflectlite.ValueOf", "(internal/reflectlite.Value).Type", "(internal/reflectlite.Value).IsNil", "internal/reflectlite.TypeOf", "(internal/reflectlite.Value).Elem", "(internal/reflectlite.Value).Set"], unfollowed := true, recurses := true, named := ["errors.errorType", "pyx/fault.names"], apart := false, laid := [("errors.errorType", laid_errors_errorType), ("pyx/fault.names", laid_pyx_fault_names)] }
def FaultWrapsSaid : Prop := faultWrapsRow.holds Tryd.pinned (OpenSpec.ofChange faultWrapsSpec)

/-- ITS FALSE NEIGHBOUR: 'it returns false'. Refute it at one input. -/
def faultWrapsWrong : ChangeSpec := { name := "faultWraps", fn := fun _ => fun
  | [d1, d2, d3] => { results := [.lit (.bool false)], args := [d1, d2, d3] }
  | _ => none }
def FaultWrapsWrongFalsely : Prop := faultWrapsRow.holds Tryd.pinned (OpenSpec.ofChange faultWrapsWrong)

/- THE SECOND FORM. 'bulk': how many values and letters a reading holds, each counted each time it is reached (what is shared counts as often as it is met; a slice's spare places count too). A statement '..UptoSaid' is the law's where the arguments, and the package variables that the reading takes, are together of bulk at most 1048576: NARROWER than '..Said'. Prove '..Said' where nothing that the law and all that it calls make is longer than what came in: it says more and counts as full. Else prove '..UptoSaid'. A law counts once. -/
mutual
def uptoBulk {H : Type} : DataW H → Nat
  | .lit (.string bytes) => bytes.length + 1
  | .lit _ => 1
  | .nil => 1
  | .ptr d => uptoBulk d + 1
  | .slice elems spare => uptoBulkAll elems + uptoBulkAll spare + 1
  | .agg parts => uptoBulkAll parts + 1
  | .iface _ d => uptoBulk d + 1
  | .map entries => uptoBulkEntries entries + 1
  | .held _ => 1
def uptoBulkAll {H : Type} : List (DataW H) → Nat
  | [] => 0
  | d :: r => uptoBulk d + uptoBulkAll r
def uptoBulkEntries {H : Type} : List (Lit × DataW H) → Nat
  | [] => 0
  | x :: r => uptoBulkEntry x + uptoBulkEntries r
def uptoBulkEntry {H : Type} : Lit × DataW H → Nat
  | (.string bytes, d) => bytes.length + uptoBulk d + 1
  | (_, d) => uptoBulk d + 1
 end
def uptoSmall : (H : Type) → List (DataW H) → Bool := fun _ ds => decide (uptoBulkAll ds ≤ 1048576)
def OpenSpec.upto (s : _root_.Go.ChangeSpec) : _root_.Go.OpenSpec := { _root_.Go.OpenSpec.ofChange s with cond := some uptoSmall }

/-- 'pyxlaw04.Base64MatchesReference', WHERE WHAT IT READS IS OF BULK AT MOST 1048576: true; the input reads as it did. -/
def base64MatchesReferenceUptoRow : OpenClaim := { program := "ytnidoimhlfcifaadoor", sum := "938981fcec98c1f9d8bbd9171a5f94c6dda08199e403ca9e4c01804779bae286", func := "pyx/pyxlaw04.Base64MatchesReference", spec := "base64MatchesReference", inPlace := ["internal/bytealg.IndexByteString", "internal/bytealg.IndexString", "internal/abi.NoEscape"], named := ["unicode/utf8.first", "unicode/utf8.acceptRanges", "internal/bytealg.MaxLen"], apart := false, laid := [("unicode/utf8.acceptRanges", laid_unicode_utf8_acceptRanges), ("unicode/utf8.first", laid_unicode_utf8_first)], narrowed := true }
def Base64MatchesReferenceUptoSaid : Prop := base64MatchesReferenceUptoRow.holds Tryd.pinned (OpenSpec.upto base64MatchesReferenceSpec)

/-- 'pyxlaw04.Base64Encodes', WHERE WHAT IT READS IS OF BULK AT MOST 1048576: true; the input reads as it did. -/
def base64EncodesUptoRow : OpenClaim := { program := "ytnidoimhlfcifaadoor", sum := "938981fcec98c1f9d8bbd9171a5f94c6dda08199e403ca9e4c01804779bae286", func := "pyx/pyxlaw04.Base64Encodes", spec := "base64Encodes", inPlace := ["internal/bytealg.IndexByteString", "internal/bytealg.IndexString", "internal/abi.NoEscape"], named := ["unicode/utf8.first", "unicode/utf8.acceptRanges", "internal/bytealg.MaxLen"], apart := false, laid := [("unicode/utf8.acceptRanges", laid_unicode_utf8_acceptRanges), ("unicode/utf8.first", laid_unicode_utf8_first)], narrowed := true }
def Base64EncodesUptoSaid : Prop := base64EncodesUptoRow.holds Tryd.pinned (OpenSpec.upto base64EncodesSpec)

/-- 'pyxlaw04.Base64Digits', WHERE WHAT IT READS IS OF BULK AT MOST 1048576: true; the input reads as it did. -/
def base64DigitsUptoRow : OpenClaim := { program := "ytnidoimhlfcifaadoor", sum := "938981fcec98c1f9d8bbd9171a5f94c6dda08199e403ca9e4c01804779bae286", func := "pyx/pyxlaw04.Base64Digits", spec := "base64Digits", inPlace := ["internal/bytealg.IndexByteString", "internal/bytealg.IndexString", "internal/abi.NoEscape"], named := ["unicode/utf8.first", "unicode/utf8.acceptRanges", "internal/bytealg.MaxLen"], apart := false, laid := [("unicode/utf8.acceptRanges", laid_unicode_utf8_acceptRanges), ("unicode/utf8.first", laid_unicode_utf8_first)], narrowed := true }
def Base64DigitsUptoSaid : Prop := base64DigitsUptoRow.holds Tryd.pinned (OpenSpec.upto base64DigitsSpec)

/-- 'pyxlaw04.Base64Joins', WHERE WHAT IT READS IS OF BULK AT MOST 1048576: true; the input reads as it did. -/
def base64JoinsUptoRow : OpenClaim := { program := "ytnidoimhlfcifaadoor", sum := "938981fcec98c1f9d8bbd9171a5f94c6dda08199e403ca9e4c01804779bae286", func := "pyx/pyxlaw04.Base64Joins", spec := "base64Joins", inPlace := ["internal/bytealg.IndexByteString", "internal/bytealg.IndexString", "internal/abi.NoEscape"], named := ["unicode/utf8.first", "unicode/utf8.acceptRanges", "internal/bytealg.MaxLen"], apart := false, laid := [("unicode/utf8.acceptRanges", laid_unicode_utf8_acceptRanges), ("unicode/utf8.first", laid_unicode_utf8_first)], narrowed := true }
def Base64JoinsUptoSaid : Prop := base64JoinsUptoRow.holds Tryd.pinned (OpenSpec.upto base64JoinsSpec)

/-- 'pyxlaw04.Base64Changes', WHERE WHAT IT READS IS OF BULK AT MOST 1048576: true; the input reads as it did. -/
def base64ChangesUptoRow : OpenClaim := { program := "ytnidoimhlfcifaadoor", sum := "938981fcec98c1f9d8bbd9171a5f94c6dda08199e403ca9e4c01804779bae286", func := "pyx/pyxlaw04.Base64Changes", spec := "base64Changes", inPlace := ["internal/bytealg.IndexByteString", "internal/bytealg.IndexString", "internal/abi.NoEscape"], named := ["unicode/utf8.first", "unicode/utf8.acceptRanges", "internal/bytealg.MaxLen"], apart := false, laid := [("unicode/utf8.acceptRanges", laid_unicode_utf8_acceptRanges), ("unicode/utf8.first", laid_unicode_utf8_first)], narrowed := true }
def Base64ChangesUptoSaid : Prop := base64ChangesUptoRow.holds Tryd.pinned (OpenSpec.upto base64ChangesSpec)

/-- 'pyxlaw02.FaultWraps', WHERE WHAT IT READS IS OF BULK AT MOST 1048576: true; the input reads as it did. -/
def faultWrapsUptoRow : OpenClaim := { program := "ytnidoimhlfcifaadoor", sum := "938981fcec98c1f9d8bbd9171a5f94c6dda08199e403ca9e4c01804779bae286", func := "pyx/pyxlaw02.FaultWraps", spec := "faultWraps", inPlace := ["internal/reflectlite.ValueOf", "(internal/reflectlite.Value).Type", "(internal/reflectlite.Value).IsNil", "internal/reflectlite.TypeOf", "(internal/reflectlite.Value).Elem", "(internal/reflectlite.Value).Set"], unfollowed := true, recurses := true, named := ["errors.errorType", "pyx/fault.names"], apart := false, laid := [("errors.errorType", laid_errors_errorType), ("pyx/fault.names", laid_pyx_fault_names)], narrowed := true }
def FaultWrapsUptoSaid : Prop := faultWrapsUptoRow.holds Tryd.pinned (OpenSpec.upto faultWrapsSpec)

end Rows
end Go.Proofs.YtnidoimhlfcifaaDoor
