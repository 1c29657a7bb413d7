/-
  NARROWER THAN 'FOR EVERY INPUT', by the rows' own cells (each row's printed sentence says how): CborMatchesReference: laid · CborEncodes: loops, laid · CborInts: laid · CborGets: loops, laid · CborLimits: laid · JsonMatchesReference: laid · JsonEncodes: laid · JsonSorts: laid · JsonParts: laid · JsonLimits: laid.
  DERIVED. THE GIVEN ROWS OF THIS SEAT. 10 by the template 'for every input the law returns true; each argument reads behind the call as it read before'; 0 by the template 'total and deterministic' (their statements: YthdjmojpnimhjaaDoorTotals.lean).
  GIVEN WITH THE SEED: the statements are not yours to turn. If you find one false, say at which input.
  Laid BY PROGRAM, IN A SANDBOX (cutbox-rows.mjs): the forced cells as the released guide's own fill.sh prints them over the translation 736988df2169d16a… (all of the seat's roots in one cut). By AI agents, Wed Nov 11 2026. No macro, syntax, notation, axiom, sorry.
-/
import Derived.Test.YthdjmojpnimhjaaDoorChecked
import GoSem.Claim
import GoSem.ClaimJoined
import GoSem.ClaimMapViews
import Derived.JoinedTies
import Derived.KernelRfl
namespace Go.Proofs.YthdjmojpnimhjaaDoor
/- THE CELL 'sum', in the pinned program and in every row, IS THE sha256 OF THE DUMP (.gsa) THAT YthdjmojpnimhjaaDoorProg.lean LOADS. Nothing in Lean hashes anything: it is a label: what it is worth is what the hold of that sum in a sandbox is worth. -/
noncomputable def Tryd.pinned : Pinned := { name := "ythdjmojpnimhjaadoor", sum := "736988df2169d16aa28fb920baa950fdb2cbb661667a1659d615cf44c76dff5b", checked := Tryd.checked }
namespace Rows
def none {H : Type} : Left H := { results := [], args := [] }

/- WHAT THE LISTED PACKAGE-LEVEL VARIABLES READ AS WHEN THE CALL BEGINS. Each datum BY PROGRAM (the guide's laid-datum.mjs) off the statement by which the dump's own 'gosem.cut.vars' lays the variable. In a bare row this is a premise. The card (YthdjmojpnimhjaaDoorCards.lean) ties it to the program's text. -/
def laid_errors_errorType {H : Type} : DataW H := .iface "internal/reflectlite.rtype" (.agg [.ptr (.lit (.string [101, 114, 114, 111, 114]))])

/-- 'pyxlaw10.CborMatchesReference': WHATEVER THE INPUT: true; the input reads as it did. -/
def cborMatchesReferenceSpec : ChangeSpec := { name := "cborMatchesReference", fn := fun _ => fun
  | [d] => { results := [.lit (.bool true)], args := [d] }
  | _ => none }
def cborMatchesReferenceRow : OpenClaim := { program := "ythdjmojpnimhjaadoor", sum := "736988df2169d16aa28fb920baa950fdb2cbb661667a1659d615cf44c76dff5b", func := "pyx/pyxlaw10.CborMatchesReference", spec := "cborMatchesReference", inPlace := ["internal/bytealg.Compare", "internal/reflectlite.ValueOf", "(internal/reflectlite.Value).Type", "(internal/reflectlite.Value).IsNil", "internal/reflectlite.TypeOf", "(internal/reflectlite.Value).Elem", "(internal/reflectlite.Value).Set"], unfollowed := true, recurses := true, named := ["errors.errorType"], apart := false, laid := [("errors.errorType", laid_errors_errorType)] }
def CborMatchesReferenceSaid : Prop := cborMatchesReferenceRow.holds Tryd.pinned (OpenSpec.ofChange cborMatchesReferenceSpec)

/-- ITS FALSE NEIGHBOUR: 'it returns false'. Refute it at one input. -/
def cborMatchesReferenceWrong : ChangeSpec := { name := "cborMatchesReference", fn := fun _ => fun
  | [d] => { results := [.lit (.bool false)], args := [d] }
  | _ => none }
def CborMatchesReferenceWrongFalsely : Prop := cborMatchesReferenceRow.holds Tryd.pinned (OpenSpec.ofChange cborMatchesReferenceWrong)

/-- 'pyxlaw10.CborEncodes': WHATEVER THE INPUT: true; the input reads as it did. -/
def cborEncodesSpec : ChangeSpec := { name := "cborEncodes", fn := fun _ => fun
  | [d] => { results := [.lit (.bool true)], args := [d] }
  | _ => none }
def cborEncodesRow : OpenClaim := { program := "ythdjmojpnimhjaadoor", sum := "736988df2169d16aa28fb920baa950fdb2cbb661667a1659d615cf44c76dff5b", func := "pyx/pyxlaw10.CborEncodes", spec := "cborEncodes", inPlace := ["internal/bytealg.Compare", "internal/reflectlite.ValueOf", "(internal/reflectlite.Value).Type", "(internal/reflectlite.Value).IsNil", "internal/reflectlite.TypeOf", "(internal/reflectlite.Value).Elem", "(internal/reflectlite.Value).Set"], unfollowed := true, recurses := true, named := ["errors.errorType"], loops := true, apart := false, laid := [("errors.errorType", laid_errors_errorType)] }
def CborEncodesSaid : Prop := cborEncodesRow.holds Tryd.pinned (OpenSpec.ofChange cborEncodesSpec)

/-- ITS FALSE NEIGHBOUR: 'it returns false'. Refute it at one input. -/
def cborEncodesWrong : ChangeSpec := { name := "cborEncodes", fn := fun _ => fun
  | [d] => { results := [.lit (.bool false)], args := [d] }
  | _ => none }
def CborEncodesWrongFalsely : Prop := cborEncodesRow.holds Tryd.pinned (OpenSpec.ofChange cborEncodesWrong)

/-- 'pyxlaw10.CborInts': WHATEVER THE INPUT: true; the input reads as it did. -/
def cborIntsSpec : ChangeSpec := { name := "cborInts", fn := fun _ => fun
  | [d] => { results := [.lit (.bool true)], args := [d] }
  | _ => none }
def cborIntsRow : OpenClaim := { program := "ythdjmojpnimhjaadoor", sum := "736988df2169d16aa28fb920baa950fdb2cbb661667a1659d615cf44c76dff5b", func := "pyx/pyxlaw10.CborInts", spec := "cborInts", inPlace := ["internal/bytealg.Compare", "internal/reflectlite.ValueOf", "(internal/reflectlite.Value).Type", "(internal/reflectlite.Value).IsNil", "internal/reflectlite.TypeOf", "(internal/reflectlite.Value).Elem", "(internal/reflectlite.Value).Set"], unfollowed := true, recurses := true, named := ["errors.errorType"], apart := false, laid := [("errors.errorType", laid_errors_errorType)] }
def CborIntsSaid : Prop := cborIntsRow.holds Tryd.pinned (OpenSpec.ofChange cborIntsSpec)

/-- ITS FALSE NEIGHBOUR: 'it returns false'. Refute it at one input. -/
def cborIntsWrong : ChangeSpec := { name := "cborInts", fn := fun _ => fun
  | [d] => { results := [.lit (.bool false)], args := [d] }
  | _ => none }
def CborIntsWrongFalsely : Prop := cborIntsRow.holds Tryd.pinned (OpenSpec.ofChange cborIntsWrong)

/-- 'pyxlaw10.CborGets': WHATEVER THE INPUT: true; the input reads as it did. -/
def cborGetsSpec : ChangeSpec := { name := "cborGets", fn := fun _ => fun
  | [d1, d2] => { results := [.lit (.bool true)], args := [d1, d2] }
  | _ => none }
def cborGetsRow : OpenClaim := { program := "ythdjmojpnimhjaadoor", sum := "736988df2169d16aa28fb920baa950fdb2cbb661667a1659d615cf44c76dff5b", func := "pyx/pyxlaw10.CborGets", spec := "cborGets", inPlace := ["internal/bytealg.Compare", "internal/reflectlite.ValueOf", "(internal/reflectlite.Value).Type", "(internal/reflectlite.Value).IsNil", "internal/reflectlite.TypeOf", "(internal/reflectlite.Value).Elem", "(internal/reflectlite.Value).Set"], unfollowed := true, recurses := true, named := ["errors.errorType"], loops := true, apart := false, laid := [("errors.errorType", laid_errors_errorType)] }
def CborGetsSaid : Prop := cborGetsRow.holds Tryd.pinned (OpenSpec.ofChange cborGetsSpec)

/-- ITS FALSE NEIGHBOUR: 'it returns false'. Refute it at one input. -/
def cborGetsWrong : ChangeSpec := { name := "cborGets", fn := fun _ => fun
  | [d1, d2] => { results := [.lit (.bool false)], args := [d1, d2] }
  | _ => none }
def CborGetsWrongFalsely : Prop := cborGetsRow.holds Tryd.pinned (OpenSpec.ofChange cborGetsWrong)

/-- 'pyxlaw10.CborLimits': WHATEVER THE INPUT: true; the input reads as it did. -/
def cborLimitsSpec : ChangeSpec := { name := "cborLimits", fn := fun _ => fun
  | [d1, d2] => { results := [.lit (.bool true)], args := [d1, d2] }
  | _ => none }
def cborLimitsRow : OpenClaim := { program := "ythdjmojpnimhjaadoor", sum := "736988df2169d16aa28fb920baa950fdb2cbb661667a1659d615cf44c76dff5b", func := "pyx/pyxlaw10.CborLimits", spec := "cborLimits", inPlace := ["internal/bytealg.Compare", "internal/reflectlite.ValueOf", "(internal/reflectlite.Value).Type", "(internal/reflectlite.Value).IsNil", "internal/reflectlite.TypeOf", "(internal/reflectlite.Value).Elem", "(internal/reflectlite.Value).Set"], unfollowed := true, recurses := true, named := ["errors.errorType"], apart := false, laid := [("errors.errorType", laid_errors_errorType)] }
def CborLimitsSaid : Prop := cborLimitsRow.holds Tryd.pinned (OpenSpec.ofChange cborLimitsSpec)

/-- ITS FALSE NEIGHBOUR: 'it returns false'. Refute it at one input. -/
def cborLimitsWrong : ChangeSpec := { name := "cborLimits", fn := fun _ => fun
  | [d1, d2] => { results := [.lit (.bool false)], args := [d1, d2] }
  | _ => none }
def CborLimitsWrongFalsely : Prop := cborLimitsRow.holds Tryd.pinned (OpenSpec.ofChange cborLimitsWrong)

/-- 'pyxlaw11.JsonMatchesReference': WHATEVER THE INPUT: true; the input reads as it did. -/
def jsonMatchesReferenceSpec : ChangeSpec := { name := "jsonMatchesReference", fn := fun _ => fun
  | [d] => { results := [.lit (.bool true)], args := [d] }
  | _ => none }
def jsonMatchesReferenceRow : OpenClaim := { program := "ythdjmojpnimhjaadoor", sum := "736988df2169d16aa28fb920baa950fdb2cbb661667a1659d615cf44c76dff5b", func := "pyx/pyxlaw11.JsonMatchesReference", spec := "jsonMatchesReference", inPlace := ["internal/abi.NoEscape", "internal/bytealg.MakeNoZero", "internal/reflectlite.ValueOf", "(internal/reflectlite.Value).Type", "(internal/reflectlite.Value).IsNil", "internal/reflectlite.TypeOf", "(internal/reflectlite.Value).Elem", "(internal/reflectlite.Value).Set"], unfollowed := true, recurses := true, named := ["errors.errorType"], apart := false, laid := [("errors.errorType", laid_errors_errorType)] }
def JsonMatchesReferenceSaid : Prop := jsonMatchesReferenceRow.holds Tryd.pinned (OpenSpec.ofChange jsonMatchesReferenceSpec)

/-- ITS FALSE NEIGHBOUR: 'it returns false'. Refute it at one input. -/
def jsonMatchesReferenceWrong : ChangeSpec := { name := "jsonMatchesReference", fn := fun _ => fun
  | [d] => { results := [.lit (.bool false)], args := [d] }
  | _ => none }
def JsonMatchesReferenceWrongFalsely : Prop := jsonMatchesReferenceRow.holds Tryd.pinned (OpenSpec.ofChange jsonMatchesReferenceWrong)

/-- 'pyxlaw11.JsonEncodes': WHATEVER THE INPUT: true; the input reads as it did. -/
def jsonEncodesSpec : ChangeSpec := { name := "jsonEncodes", fn := fun _ => fun
  | [d] => { results := [.lit (.bool true)], args := [d] }
  | _ => none }
def jsonEncodesRow : OpenClaim := { program := "ythdjmojpnimhjaadoor", sum := "736988df2169d16aa28fb920baa950fdb2cbb661667a1659d615cf44c76dff5b", func := "pyx/pyxlaw11.JsonEncodes", spec := "jsonEncodes", inPlace := ["internal/abi.NoEscape", "internal/bytealg.MakeNoZero", "internal/reflectlite.ValueOf", "(internal/reflectlite.Value).Type", "(internal/reflectlite.Value).IsNil", "internal/reflectlite.TypeOf", "(internal/reflectlite.Value).Elem", "(internal/reflectlite.Value).Set"], unfollowed := true, recurses := true, named := ["errors.errorType"], apart := false, laid := [("errors.errorType", laid_errors_errorType)] }
def JsonEncodesSaid : Prop := jsonEncodesRow.holds Tryd.pinned (OpenSpec.ofChange jsonEncodesSpec)

/-- ITS FALSE NEIGHBOUR: 'it returns false'. Refute it at one input. -/
def jsonEncodesWrong : ChangeSpec := { name := "jsonEncodes", fn := fun _ => fun
  | [d] => { results := [.lit (.bool false)], args := [d] }
  | _ => none }
def JsonEncodesWrongFalsely : Prop := jsonEncodesRow.holds Tryd.pinned (OpenSpec.ofChange jsonEncodesWrong)

/-- 'pyxlaw11.JsonSorts': WHATEVER THE INPUT: true; the input reads as it did. -/
def jsonSortsSpec : ChangeSpec := { name := "jsonSorts", fn := fun _ => fun
  | [d1, d2] => { results := [.lit (.bool true)], args := [d1, d2] }
  | _ => none }
def jsonSortsRow : OpenClaim := { program := "ythdjmojpnimhjaadoor", sum := "736988df2169d16aa28fb920baa950fdb2cbb661667a1659d615cf44c76dff5b", func := "pyx/pyxlaw11.JsonSorts", spec := "jsonSorts", inPlace := ["internal/abi.NoEscape", "internal/bytealg.MakeNoZero", "internal/reflectlite.ValueOf", "(internal/reflectlite.Value).Type", "(internal/reflectlite.Value).IsNil", "internal/reflectlite.TypeOf", "(internal/reflectlite.Value).Elem", "(internal/reflectlite.Value).Set"], unfollowed := true, recurses := true, named := ["errors.errorType"], apart := false, laid := [("errors.errorType", laid_errors_errorType)] }
def JsonSortsSaid : Prop := jsonSortsRow.holds Tryd.pinned (OpenSpec.ofChange jsonSortsSpec)

/-- ITS FALSE NEIGHBOUR: 'it returns false'. Refute it at one input. -/
def jsonSortsWrong : ChangeSpec := { name := "jsonSorts", fn := fun _ => fun
  | [d1, d2] => { results := [.lit (.bool false)], args := [d1, d2] }
  | _ => none }
def JsonSortsWrongFalsely : Prop := jsonSortsRow.holds Tryd.pinned (OpenSpec.ofChange jsonSortsWrong)

/-- 'pyxlaw11.JsonParts': WHATEVER THE INPUT: true; the input reads as it did. -/
def jsonPartsSpec : ChangeSpec := { name := "jsonParts", fn := fun _ => fun
  | [d1, d2, d3] => { results := [.lit (.bool true)], args := [d1, d2, d3] }
  | _ => none }
def jsonPartsRow : OpenClaim := { program := "ythdjmojpnimhjaadoor", sum := "736988df2169d16aa28fb920baa950fdb2cbb661667a1659d615cf44c76dff5b", func := "pyx/pyxlaw11.JsonParts", spec := "jsonParts", inPlace := ["internal/abi.NoEscape", "internal/bytealg.MakeNoZero", "internal/reflectlite.ValueOf", "(internal/reflectlite.Value).Type", "(internal/reflectlite.Value).IsNil", "internal/reflectlite.TypeOf", "(internal/reflectlite.Value).Elem", "(internal/reflectlite.Value).Set"], unfollowed := true, recurses := true, named := ["errors.errorType"], apart := false, laid := [("errors.errorType", laid_errors_errorType)] }
def JsonPartsSaid : Prop := jsonPartsRow.holds Tryd.pinned (OpenSpec.ofChange jsonPartsSpec)

/-- ITS FALSE NEIGHBOUR: 'it returns false'. Refute it at one input. -/
def jsonPartsWrong : ChangeSpec := { name := "jsonParts", fn := fun _ => fun
  | [d1, d2, d3] => { results := [.lit (.bool false)], args := [d1, d2, d3] }
  | _ => none }
def JsonPartsWrongFalsely : Prop := jsonPartsRow.holds Tryd.pinned (OpenSpec.ofChange jsonPartsWrong)

/-- 'pyxlaw11.JsonLimits': WHATEVER THE INPUT: true; the input reads as it did. -/
def jsonLimitsSpec : ChangeSpec := { name := "jsonLimits", fn := fun _ => fun
  | [d] => { results := [.lit (.bool true)], args := [d] }
  | _ => none }
def jsonLimitsRow : OpenClaim := { program := "ythdjmojpnimhjaadoor", sum := "736988df2169d16aa28fb920baa950fdb2cbb661667a1659d615cf44c76dff5b", func := "pyx/pyxlaw11.JsonLimits", spec := "jsonLimits", inPlace := ["internal/abi.NoEscape", "internal/bytealg.MakeNoZero", "internal/reflectlite.ValueOf", "(internal/reflectlite.Value).Type", "(internal/reflectlite.Value).IsNil", "internal/reflectlite.TypeOf", "(internal/reflectlite.Value).Elem", "(internal/reflectlite.Value).Set"], unfollowed := true, recurses := true, named := ["errors.errorType"], apart := false, laid := [("errors.errorType", laid_errors_errorType)] }
def JsonLimitsSaid : Prop := jsonLimitsRow.holds Tryd.pinned (OpenSpec.ofChange jsonLimitsSpec)

/-- ITS FALSE NEIGHBOUR: 'it returns false'. Refute it at one input. -/
def jsonLimitsWrong : ChangeSpec := { name := "jsonLimits", fn := fun _ => fun
  | [d] => { results := [.lit (.bool false)], args := [d] }
  | _ => none }
def JsonLimitsWrongFalsely : Prop := jsonLimitsRow.holds Tryd.pinned (OpenSpec.ofChange jsonLimitsWrong)

/- THE SECOND FORM. 'bulk': how many values and letters a reading holds, each counted each time it is reached (what is shared counts as often as it is met; a slice's spare places count too). A statement '..UptoSaid' is the law's where the arguments, and the package variables that the reading takes, are together of bulk at most 1048576: NARROWER than '..Said'. Prove '..Said' where nothing that the law and all that it calls make is longer than what came in: it says more and counts as full. Else prove '..UptoSaid'. A law counts once. -/
mutual
def uptoBulk {H : Type} : DataW H → Nat
  | .lit (.string bytes) => bytes.length + 1
  | .lit _ => 1
  | .nil => 1
  | .ptr d => uptoBulk d + 1
  | .slice elems spare => uptoBulkAll elems + uptoBulkAll spare + 1
  | .agg parts => uptoBulkAll parts + 1
  | .iface _ d => uptoBulk d + 1
  | .map entries => uptoBulkEntries entries + 1
  | .held _ => 1
def uptoBulkAll {H : Type} : List (DataW H) → Nat
  | [] => 0
  | d :: r => uptoBulk d + uptoBulkAll r
def uptoBulkEntries {H : Type} : List (Lit × DataW H) → Nat
  | [] => 0
  | x :: r => uptoBulkEntry x + uptoBulkEntries r
def uptoBulkEntry {H : Type} : Lit × DataW H → Nat
  | (.string bytes, d) => bytes.length + uptoBulk d + 1
  | (_, d) => uptoBulk d + 1
 end
def uptoSmall : (H : Type) → List (DataW H) → Bool := fun _ ds => decide (uptoBulkAll ds ≤ 1048576)
def OpenSpec.upto (s : _root_.Go.ChangeSpec) : _root_.Go.OpenSpec := { _root_.Go.OpenSpec.ofChange s with cond := some uptoSmall }

/-- 'pyxlaw10.CborMatchesReference', WHERE WHAT IT READS IS OF BULK AT MOST 1048576: true; the input reads as it did. -/
def cborMatchesReferenceUptoRow : OpenClaim := { program := "ythdjmojpnimhjaadoor", sum := "736988df2169d16aa28fb920baa950fdb2cbb661667a1659d615cf44c76dff5b", func := "pyx/pyxlaw10.CborMatchesReference", spec := "cborMatchesReference", inPlace := ["internal/bytealg.Compare", "internal/reflectlite.ValueOf", "(internal/reflectlite.Value).Type", "(internal/reflectlite.Value).IsNil", "internal/reflectlite.TypeOf", "(internal/reflectlite.Value).Elem", "(internal/reflectlite.Value).Set"], unfollowed := true, recurses := true, named := ["errors.errorType"], apart := false, laid := [("errors.errorType", laid_errors_errorType)], narrowed := true }
def CborMatchesReferenceUptoSaid : Prop := cborMatchesReferenceUptoRow.holds Tryd.pinned (OpenSpec.upto cborMatchesReferenceSpec)

/-- 'pyxlaw10.CborEncodes', WHERE WHAT IT READS IS OF BULK AT MOST 1048576: true; the input reads as it did. -/
def cborEncodesUptoRow : OpenClaim := { program := "ythdjmojpnimhjaadoor", sum := "736988df2169d16aa28fb920baa950fdb2cbb661667a1659d615cf44c76dff5b", func := "pyx/pyxlaw10.CborEncodes", spec := "cborEncodes", inPlace := ["internal/bytealg.Compare", "internal/reflectlite.ValueOf", "(internal/reflectlite.Value).Type", "(internal/reflectlite.Value).IsNil", "internal/reflectlite.TypeOf", "(internal/reflectlite.Value).Elem", "(internal/reflectlite.Value).Set"], unfollowed := true, recurses := true, named := ["errors.errorType"], loops := true, apart := false, laid := [("errors.errorType", laid_errors_errorType)], narrowed := true }
def CborEncodesUptoSaid : Prop := cborEncodesUptoRow.holds Tryd.pinned (OpenSpec.upto cborEncodesSpec)

/-- 'pyxlaw10.CborInts', WHERE WHAT IT READS IS OF BULK AT MOST 1048576: true; the input reads as it did. -/
def cborIntsUptoRow : OpenClaim := { program := "ythdjmojpnimhjaadoor", sum := "736988df2169d16aa28fb920baa950fdb2cbb661667a1659d615cf44c76dff5b", func := "pyx/pyxlaw10.CborInts", spec := "cborInts", inPlace := ["internal/bytealg.Compare", "internal/reflectlite.ValueOf", "(internal/reflectlite.Value).Type", "(internal/reflectlite.Value).IsNil", "internal/reflectlite.TypeOf", "(internal/reflectlite.Value).Elem", "(internal/reflectlite.Value).Set"], unfollowed := true, recurses := true, named := ["errors.errorType"], apart := false, laid := [("errors.errorType", laid_errors_errorType)], narrowed := true }
def CborIntsUptoSaid : Prop := cborIntsUptoRow.holds Tryd.pinned (OpenSpec.upto cborIntsSpec)

/-- 'pyxlaw10.CborGets', WHERE WHAT IT READS IS OF BULK AT MOST 1048576: true; the input reads as it did. -/
def cborGetsUptoRow : OpenClaim := { program := "ythdjmojpnimhjaadoor", sum := "736988df2169d16aa28fb920baa950fdb2cbb661667a1659d615cf44c76dff5b", func := "pyx/pyxlaw10.CborGets", spec := "cborGets", inPlace := ["internal/bytealg.Compare", "internal/reflectlite.ValueOf", "(internal/reflectlite.Value).Type", "(internal/reflectlite.Value).IsNil", "internal/reflectlite.TypeOf", "(internal/reflectlite.Value).Elem", "(internal/reflectlite.Value).Set"], unfollowed := true, recurses := true, named := ["errors.errorType"], loops := true, apart := false, laid := [("errors.errorType", laid_errors_errorType)], narrowed := true }
def CborGetsUptoSaid : Prop := cborGetsUptoRow.holds Tryd.pinned (OpenSpec.upto cborGetsSpec)

/-- 'pyxlaw10.CborLimits', WHERE WHAT IT READS IS OF BULK AT MOST 1048576: true; the input reads as it did. -/
def cborLimitsUptoRow : OpenClaim := { program := "ythdjmojpnimhjaadoor", sum := "736988df2169d16aa28fb920baa950fdb2cbb661667a1659d615cf44c76dff5b", func := "pyx/pyxlaw10.CborLimits", spec := "cborLimits", inPlace := ["internal/bytealg.Compare", "internal/reflectlite.ValueOf", "(internal/reflectlite.Value).Type", "(internal/reflectlite.Value).IsNil", "internal/reflectlite.TypeOf", "(internal/reflectlite.Value).Elem", "(internal/reflectlite.Value).Set"], unfollowed := true, recurses := true, named := ["errors.errorType"], apart := false, laid := [("errors.errorType", laid_errors_errorType)], narrowed := true }
def CborLimitsUptoSaid : Prop := cborLimitsUptoRow.holds Tryd.pinned (OpenSpec.upto cborLimitsSpec)

/-- 'pyxlaw11.JsonMatchesReference', WHERE WHAT IT READS IS OF BULK AT MOST 1048576: true; the input reads as it did. -/
def jsonMatchesReferenceUptoRow : OpenClaim := { program := "ythdjmojpnimhjaadoor", sum := "736988df2169d16aa28fb920baa950fdb2cbb661667a1659d615cf44c76dff5b", func := "pyx/pyxlaw11.JsonMatchesReference", spec := "jsonMatchesReference", inPlace := ["internal/abi.NoEscape", "internal/bytealg.MakeNoZero", "internal/reflectlite.ValueOf", "(internal/reflectlite.Value).Type", "(internal/reflectlite.Value).IsNil", "internal/reflectlite.TypeOf", "(internal/reflectlite.Value).Elem", "(internal/reflectlite.Value).Set"], unfollowed := true, recurses := true, named := ["errors.errorType"], apart := false, laid := [("errors.errorType", laid_errors_errorType)], narrowed := true }
def JsonMatchesReferenceUptoSaid : Prop := jsonMatchesReferenceUptoRow.holds Tryd.pinned (OpenSpec.upto jsonMatchesReferenceSpec)

/-- 'pyxlaw11.JsonEncodes', WHERE WHAT IT READS IS OF BULK AT MOST 1048576: true; the input reads as it did. -/
def jsonEncodesUptoRow : OpenClaim := { program := "ythdjmojpnimhjaadoor", sum := "736988df2169d16aa28fb920baa950fdb2cbb661667a1659d615cf44c76dff5b", func := "pyx/pyxlaw11.JsonEncodes", spec := "jsonEncodes", inPlace := ["internal/abi.NoEscape", "internal/bytealg.MakeNoZero", "internal/reflectlite.ValueOf", "(internal/reflectlite.Value).Type", "(internal/reflectlite.Value).IsNil", "internal/reflectlite.TypeOf", "(internal/reflectlite.Value).Elem", "(internal/reflectlite.Value).Set"], unfollowed := true, recurses := true, named := ["errors.errorType"], apart := false, laid := [("errors.errorType", laid_errors_errorType)], narrowed := true }
def JsonEncodesUptoSaid : Prop := jsonEncodesUptoRow.holds Tryd.pinned (OpenSpec.upto jsonEncodesSpec)

/-- 'pyxlaw11.JsonSorts', WHERE WHAT IT READS IS OF BULK AT MOST 1048576: true; the input reads as it did. -/
def jsonSortsUptoRow : OpenClaim := { program := "ythdjmojpnimhjaadoor", sum := "736988df2169d16aa28fb920baa950fdb2cbb661667a1659d615cf44c76dff5b", func := "pyx/pyxlaw11.JsonSorts", spec := "jsonSorts", inPlace := ["internal/abi.NoEscape", "internal/bytealg.MakeNoZero", "internal/reflectlite.ValueOf", "(internal/reflectlite.Value).Type", "(internal/reflectlite.Value).IsNil", "internal/reflectlite.TypeOf", "(internal/reflectlite.Value).Elem", "(internal/reflectlite.Value).Set"], unfollowed := true, recurses := true, named := ["errors.errorType"], apart := false, laid := [("errors.errorType", laid_errors_errorType)], narrowed := true }
def JsonSortsUptoSaid : Prop := jsonSortsUptoRow.holds Tryd.pinned (OpenSpec.upto jsonSortsSpec)

/-- 'pyxlaw11.JsonParts', WHERE WHAT IT READS IS OF BULK AT MOST 1048576: true; the input reads as it did. -/
def jsonPartsUptoRow : OpenClaim := { program := "ythdjmojpnimhjaadoor", sum := "736988df2169d16aa28fb920baa950fdb2cbb661667a1659d615cf44c76dff5b", func := "pyx/pyxlaw11.JsonParts", spec := "jsonParts", inPlace := ["internal/abi.NoEscape", "internal/bytealg.MakeNoZero", "internal/reflectlite.ValueOf", "(internal/reflectlite.Value).Type", "(internal/reflectlite.Value).IsNil", "internal/reflectlite.TypeOf", "(internal/reflectlite.Value).Elem", "(internal/reflectlite.Value).Set"], unfollowed := true, recurses := true, named := ["errors.errorType"], apart := false, laid := [("errors.errorType", laid_errors_errorType)], narrowed := true }
def JsonPartsUptoSaid : Prop := jsonPartsUptoRow.holds Tryd.pinned (OpenSpec.upto jsonPartsSpec)

/-- 'pyxlaw11.JsonLimits', WHERE WHAT IT READS IS OF BULK AT MOST 1048576: true; the input reads as it did. -/
def jsonLimitsUptoRow : OpenClaim := { program := "ythdjmojpnimhjaadoor", sum := "736988df2169d16aa28fb920baa950fdb2cbb661667a1659d615cf44c76dff5b", func := "pyx/pyxlaw11.JsonLimits", spec := "jsonLimits", inPlace := ["internal/abi.NoEscape", "internal/bytealg.MakeNoZero", "internal/reflectlite.ValueOf", "(internal/reflectlite.Value).Type", "(internal/reflectlite.Value).IsNil", "internal/reflectlite.TypeOf", "(internal/reflectlite.Value).Elem", "(internal/reflectlite.Value).Set"], unfollowed := true, recurses := true, named := ["errors.errorType"], apart := false, laid := [("errors.errorType", laid_errors_errorType)], narrowed := true }
def JsonLimitsUptoSaid : Prop := jsonLimitsUptoRow.holds Tryd.pinned (OpenSpec.upto jsonLimitsSpec)

end Rows
end Go.Proofs.YthdjmojpnimhjaaDoor
