/-
  NARROWER THAN 'FOR EVERY INPUT', by the rows' own cells (each row's printed sentence says how): DerMatchesReference: laid · DerSame: loops, laid · DerLimits: laid · DerDeep: laid · LmsParts: laid · LmsSizes: laid · LmsMakes: laid · LmsCuts: laid.
  DERIVED. THE GIVEN ROWS OF THIS SEAT. 8 by the template 'for every input the law returns true; each argument reads behind the call as it read before'; 0 by the template 'total and deterministic' (their statements: YtijmigapdcikpaaDoorTotals.lean).
  GIVEN WITH THE SEED: the statements are not yours to turn. If you find one false, say at which input.
  Laid BY PROGRAM, IN A SANDBOX (cutbox-rows.mjs): the forced cells as the released guide's own fill.sh prints them over the translation af4f3134c7a8ead7… (all of the seat's roots in one cut). By AI agents, Wed Nov 11 2026. No macro, syntax, notation, axiom, sorry.
-/
import Derived.Test.YtijmigapdcikpaaDoorChecked
import GoSem.Claim
import GoSem.ClaimJoined
import GoSem.ClaimMapViews
import Derived.JoinedTies
import Derived.KernelRfl
namespace Go.Proofs.YtijmigapdcikpaaDoor
/- THE CELL 'sum', in the pinned program and in every row, IS THE sha256 OF THE DUMP (.gsa) THAT YtijmigapdcikpaaDoorProg.lean LOADS. Nothing in Lean hashes anything: it is a label: what it is worth is what the hold of that sum in a sandbox is worth. -/
noncomputable def Tryd.pinned : Pinned := { name := "ytijmigapdcikpaadoor", sum := "af4f3134c7a8ead7973f8b872a7fb4ffaff285b9828c623d431274d6d35bfe39", checked := Tryd.checked }
namespace Rows
def none {H : Type} : Left H := { results := [], args := [] }

/- WHAT THE LISTED PACKAGE-LEVEL VARIABLES READ AS WHEN THE CALL BEGINS. Each datum BY PROGRAM (the guide's laid-datum.mjs) off the statement by which the dump's own 'gosem.cut.vars' lays the variable. In a bare row this is a premise. The card (YtijmigapdcikpaaDoorCards.lean) ties it to the program's text. -/
def laid_errors_errorType {H : Type} : DataW H := .iface "internal/reflectlite.rtype" (.agg [.ptr (.lit (.string [101, 114, 114, 111, 114]))])
def laid_pyx_lms_heights {H : Type} : DataW H := .agg [.lit (.int .i64 5), .lit (.int .i64 10), .lit (.int .i64 15), .lit (.int .i64 20), .lit (.int .i64 25)]
def laid_pyx_lms_chains {H : Type} : DataW H := .agg [.lit (.int .i64 265), .lit (.int .i64 133), .lit (.int .i64 67), .lit (.int .i64 34)]

/-- 'pyxlaw08.DerMatchesReference': WHATEVER THE INPUT: true; the input reads as it did. -/
def derMatchesReferenceSpec : ChangeSpec := { name := "derMatchesReference", fn := fun _ => fun
  | [d] => { results := [.lit (.bool true)], args := [d] }
  | _ => none }
def derMatchesReferenceRow : OpenClaim := { program := "ytijmigapdcikpaadoor", sum := "af4f3134c7a8ead7973f8b872a7fb4ffaff285b9828c623d431274d6d35bfe39", func := "pyx/pyxlaw08.DerMatchesReference", spec := "derMatchesReference", inPlace := ["internal/reflectlite.ValueOf", "(internal/reflectlite.Value).Type", "(internal/reflectlite.Value).IsNil", "internal/reflectlite.TypeOf", "(internal/reflectlite.Value).Elem", "(internal/reflectlite.Value).Set"], unfollowed := true, recurses := true, named := ["errors.errorType"], apart := false, laid := [("errors.errorType", laid_errors_errorType)] }
def DerMatchesReferenceSaid : Prop := derMatchesReferenceRow.holds Tryd.pinned (OpenSpec.ofChange derMatchesReferenceSpec)

/-- ITS FALSE NEIGHBOUR: 'it returns false'. Refute it at one input. -/
def derMatchesReferenceWrong : ChangeSpec := { name := "derMatchesReference", fn := fun _ => fun
  | [d] => { results := [.lit (.bool false)], args := [d] }
  | _ => none }
def DerMatchesReferenceWrongFalsely : Prop := derMatchesReferenceRow.holds Tryd.pinned (OpenSpec.ofChange derMatchesReferenceWrong)

/-- 'pyxlaw08.DerSame': WHATEVER THE INPUT: true; the input reads as it did. -/
def derSameSpec : ChangeSpec := { name := "derSame", fn := fun _ => fun
  | [d1, d2] => { results := [.lit (.bool true)], args := [d1, d2] }
  | _ => none }
def derSameRow : OpenClaim := { program := "ytijmigapdcikpaadoor", sum := "af4f3134c7a8ead7973f8b872a7fb4ffaff285b9828c623d431274d6d35bfe39", func := "pyx/pyxlaw08.DerSame", spec := "derSame", inPlace := ["internal/reflectlite.ValueOf", "(internal/reflectlite.Value).Type", "(internal/reflectlite.Value).IsNil", "internal/reflectlite.TypeOf", "(internal/reflectlite.Value).Elem", "(internal/reflectlite.Value).Set"], unfollowed := true, recurses := true, named := ["errors.errorType"], loops := true, apart := false, laid := [("errors.errorType", laid_errors_errorType)] }
def DerSameSaid : Prop := derSameRow.holds Tryd.pinned (OpenSpec.ofChange derSameSpec)

/-- ITS FALSE NEIGHBOUR: 'it returns false'. Refute it at one input. -/
def derSameWrong : ChangeSpec := { name := "derSame", fn := fun _ => fun
  | [d1, d2] => { results := [.lit (.bool false)], args := [d1, d2] }
  | _ => none }
def DerSameWrongFalsely : Prop := derSameRow.holds Tryd.pinned (OpenSpec.ofChange derSameWrong)

/-- 'pyxlaw08.DerLimits': WHATEVER THE INPUT: true; the input reads as it did. -/
def derLimitsSpec : ChangeSpec := { name := "derLimits", fn := fun _ => fun
  | [d1, d2] => { results := [.lit (.bool true)], args := [d1, d2] }
  | _ => none }
def derLimitsRow : OpenClaim := { program := "ytijmigapdcikpaadoor", sum := "af4f3134c7a8ead7973f8b872a7fb4ffaff285b9828c623d431274d6d35bfe39", func := "pyx/pyxlaw08.DerLimits", spec := "derLimits", inPlace := ["internal/reflectlite.ValueOf", "(internal/reflectlite.Value).Type", "(internal/reflectlite.Value).IsNil", "internal/reflectlite.TypeOf", "(internal/reflectlite.Value).Elem", "(internal/reflectlite.Value).Set"], unfollowed := true, recurses := true, named := ["errors.errorType"], apart := false, laid := [("errors.errorType", laid_errors_errorType)] }
def DerLimitsSaid : Prop := derLimitsRow.holds Tryd.pinned (OpenSpec.ofChange derLimitsSpec)

/-- ITS FALSE NEIGHBOUR: 'it returns false'. Refute it at one input. -/
def derLimitsWrong : ChangeSpec := { name := "derLimits", fn := fun _ => fun
  | [d1, d2] => { results := [.lit (.bool false)], args := [d1, d2] }
  | _ => none }
def DerLimitsWrongFalsely : Prop := derLimitsRow.holds Tryd.pinned (OpenSpec.ofChange derLimitsWrong)

/-- 'pyxlaw08.DerDeep': WHATEVER THE INPUT: true; the input reads as it did. -/
def derDeepSpec : ChangeSpec := { name := "derDeep", fn := fun _ => fun
  | [d] => { results := [.lit (.bool true)], args := [d] }
  | _ => none }
def derDeepRow : OpenClaim := { program := "ytijmigapdcikpaadoor", sum := "af4f3134c7a8ead7973f8b872a7fb4ffaff285b9828c623d431274d6d35bfe39", func := "pyx/pyxlaw08.DerDeep", spec := "derDeep", inPlace := ["internal/reflectlite.ValueOf", "(internal/reflectlite.Value).Type", "(internal/reflectlite.Value).IsNil", "internal/reflectlite.TypeOf", "(internal/reflectlite.Value).Elem", "(internal/reflectlite.Value).Set"], unfollowed := true, recurses := true, named := ["errors.errorType"], apart := false, laid := [("errors.errorType", laid_errors_errorType)] }
def DerDeepSaid : Prop := derDeepRow.holds Tryd.pinned (OpenSpec.ofChange derDeepSpec)

/-- ITS FALSE NEIGHBOUR: 'it returns false'. Refute it at one input. -/
def derDeepWrong : ChangeSpec := { name := "derDeep", fn := fun _ => fun
  | [d] => { results := [.lit (.bool false)], args := [d] }
  | _ => none }
def DerDeepWrongFalsely : Prop := derDeepRow.holds Tryd.pinned (OpenSpec.ofChange derDeepWrong)

/-- 'pyxlaw21.LmsParts': WHATEVER THE INPUT: true; the input reads as it did. -/
def lmsPartsSpec : ChangeSpec := { name := "lmsParts", fn := fun _ => fun
  | [d1, d2] => { results := [.lit (.bool true)], args := [d1, d2] }
  | _ => none }
def lmsPartsRow : OpenClaim := { program := "ytijmigapdcikpaadoor", sum := "af4f3134c7a8ead7973f8b872a7fb4ffaff285b9828c623d431274d6d35bfe39", func := "pyx/pyxlaw21.LmsParts", spec := "lmsParts", inPlace := ["internal/reflectlite.ValueOf", "(internal/reflectlite.Value).Type", "(internal/reflectlite.Value).IsNil", "internal/reflectlite.TypeOf", "(internal/reflectlite.Value).Elem", "(internal/reflectlite.Value).Set"], unfollowed := true, recurses := true, named := ["pyx/lms.heights", "pyx/lms.chains", "errors.errorType"], apart := false, laid := [("errors.errorType", laid_errors_errorType), ("pyx/lms.heights", laid_pyx_lms_heights), ("pyx/lms.chains", laid_pyx_lms_chains)] }
def LmsPartsSaid : Prop := lmsPartsRow.holds Tryd.pinned (OpenSpec.ofChange lmsPartsSpec)

/-- ITS FALSE NEIGHBOUR: 'it returns false'. Refute it at one input. -/
def lmsPartsWrong : ChangeSpec := { name := "lmsParts", fn := fun _ => fun
  | [d1, d2] => { results := [.lit (.bool false)], args := [d1, d2] }
  | _ => none }
def LmsPartsWrongFalsely : Prop := lmsPartsRow.holds Tryd.pinned (OpenSpec.ofChange lmsPartsWrong)

/-- 'pyxlaw21.LmsSizes': WHATEVER THE INPUT: true; the input reads as it did. -/
def lmsSizesSpec : ChangeSpec := { name := "lmsSizes", fn := fun _ => fun
  | [d1, d2] => { results := [.lit (.bool true)], args := [d1, d2] }
  | _ => none }
def lmsSizesRow : OpenClaim := { program := "ytijmigapdcikpaadoor", sum := "af4f3134c7a8ead7973f8b872a7fb4ffaff285b9828c623d431274d6d35bfe39", func := "pyx/pyxlaw21.LmsSizes", spec := "lmsSizes", inPlace := ["internal/reflectlite.ValueOf", "(internal/reflectlite.Value).Type", "(internal/reflectlite.Value).IsNil", "internal/reflectlite.TypeOf", "(internal/reflectlite.Value).Elem", "(internal/reflectlite.Value).Set"], unfollowed := true, recurses := true, named := ["pyx/lms.heights", "pyx/lms.chains", "errors.errorType"], apart := false, laid := [("errors.errorType", laid_errors_errorType), ("pyx/lms.heights", laid_pyx_lms_heights), ("pyx/lms.chains", laid_pyx_lms_chains)] }
def LmsSizesSaid : Prop := lmsSizesRow.holds Tryd.pinned (OpenSpec.ofChange lmsSizesSpec)

/-- ITS FALSE NEIGHBOUR: 'it returns false'. Refute it at one input. -/
def lmsSizesWrong : ChangeSpec := { name := "lmsSizes", fn := fun _ => fun
  | [d1, d2] => { results := [.lit (.bool false)], args := [d1, d2] }
  | _ => none }
def LmsSizesWrongFalsely : Prop := lmsSizesRow.holds Tryd.pinned (OpenSpec.ofChange lmsSizesWrong)

/-- 'pyxlaw21.LmsMakes': WHATEVER THE INPUT: true; the input reads as it did. -/
def lmsMakesSpec : ChangeSpec := { name := "lmsMakes", fn := fun _ => fun
  | [d1, d2, d3] => { results := [.lit (.bool true)], args := [d1, d2, d3] }
  | _ => none }
def lmsMakesRow : OpenClaim := { program := "ytijmigapdcikpaadoor", sum := "af4f3134c7a8ead7973f8b872a7fb4ffaff285b9828c623d431274d6d35bfe39", func := "pyx/pyxlaw21.LmsMakes", spec := "lmsMakes", inPlace := ["internal/reflectlite.ValueOf", "(internal/reflectlite.Value).Type", "(internal/reflectlite.Value).IsNil", "internal/reflectlite.TypeOf", "(internal/reflectlite.Value).Elem", "(internal/reflectlite.Value).Set"], unfollowed := true, recurses := true, named := ["pyx/lms.heights", "pyx/lms.chains", "errors.errorType"], apart := false, laid := [("errors.errorType", laid_errors_errorType), ("pyx/lms.heights", laid_pyx_lms_heights), ("pyx/lms.chains", laid_pyx_lms_chains)] }
def LmsMakesSaid : Prop := lmsMakesRow.holds Tryd.pinned (OpenSpec.ofChange lmsMakesSpec)

/-- ITS FALSE NEIGHBOUR: 'it returns false'. Refute it at one input. -/
def lmsMakesWrong : ChangeSpec := { name := "lmsMakes", fn := fun _ => fun
  | [d1, d2, d3] => { results := [.lit (.bool false)], args := [d1, d2, d3] }
  | _ => none }
def LmsMakesWrongFalsely : Prop := lmsMakesRow.holds Tryd.pinned (OpenSpec.ofChange lmsMakesWrong)

/-- 'pyxlaw21.LmsCuts': WHATEVER THE INPUT: true; the input reads as it did. -/
def lmsCutsSpec : ChangeSpec := { name := "lmsCuts", fn := fun _ => fun
  | [d1, d2] => { results := [.lit (.bool true)], args := [d1, d2] }
  | _ => none }
def lmsCutsRow : OpenClaim := { program := "ytijmigapdcikpaadoor", sum := "af4f3134c7a8ead7973f8b872a7fb4ffaff285b9828c623d431274d6d35bfe39", func := "pyx/pyxlaw21.LmsCuts", spec := "lmsCuts", inPlace := ["internal/reflectlite.ValueOf", "(internal/reflectlite.Value).Type", "(internal/reflectlite.Value).IsNil", "internal/reflectlite.TypeOf", "(internal/reflectlite.Value).Elem", "(internal/reflectlite.Value).Set"], unfollowed := true, recurses := true, named := ["pyx/lms.heights", "pyx/lms.chains", "errors.errorType"], apart := false, laid := [("errors.errorType", laid_errors_errorType), ("pyx/lms.heights", laid_pyx_lms_heights), ("pyx/lms.chains", laid_pyx_lms_chains)] }
def LmsCutsSaid : Prop := lmsCutsRow.holds Tryd.pinned (OpenSpec.ofChange lmsCutsSpec)

/-- ITS FALSE NEIGHBOUR: 'it returns false'. Refute it at one input. -/
def lmsCutsWrong : ChangeSpec := { name := "lmsCuts", fn := fun _ => fun
  | [d1, d2] => { results := [.lit (.bool false)], args := [d1, d2] }
  | _ => none }
def LmsCutsWrongFalsely : Prop := lmsCutsRow.holds Tryd.pinned (OpenSpec.ofChange lmsCutsWrong)

/- THE SECOND FORM. 'bulk': how many values and letters a reading holds, each counted each time it is reached (what is shared counts as often as it is met; a slice's spare places count too). A statement '..UptoSaid' is the law's where the arguments, and the package variables that the reading takes, are together of bulk at most 1048576: NARROWER than '..Said'. Prove '..Said' where nothing that the law and all that it calls make is longer than what came in: it says more and counts as full. Else prove '..UptoSaid'. A law counts once. -/
mutual
def uptoBulk {H : Type} : DataW H → Nat
  | .lit (.string bytes) => bytes.length + 1
  | .lit _ => 1
  | .nil => 1
  | .ptr d => uptoBulk d + 1
  | .slice elems spare => uptoBulkAll elems + uptoBulkAll spare + 1
  | .agg parts => uptoBulkAll parts + 1
  | .iface _ d => uptoBulk d + 1
  | .map entries => uptoBulkEntries entries + 1
  | .held _ => 1
def uptoBulkAll {H : Type} : List (DataW H) → Nat
  | [] => 0
  | d :: r => uptoBulk d + uptoBulkAll r
def uptoBulkEntries {H : Type} : List (Lit × DataW H) → Nat
  | [] => 0
  | x :: r => uptoBulkEntry x + uptoBulkEntries r
def uptoBulkEntry {H : Type} : Lit × DataW H → Nat
  | (.string bytes, d) => bytes.length + uptoBulk d + 1
  | (_, d) => uptoBulk d + 1
 end
def uptoSmall : (H : Type) → List (DataW H) → Bool := fun _ ds => decide (uptoBulkAll ds ≤ 1048576)
def OpenSpec.upto (s : _root_.Go.ChangeSpec) : _root_.Go.OpenSpec := { _root_.Go.OpenSpec.ofChange s with cond := some uptoSmall }

/-- 'pyxlaw08.DerMatchesReference', WHERE WHAT IT READS IS OF BULK AT MOST 1048576: true; the input reads as it did. -/
def derMatchesReferenceUptoRow : OpenClaim := { program := "ytijmigapdcikpaadoor", sum := "af4f3134c7a8ead7973f8b872a7fb4ffaff285b9828c623d431274d6d35bfe39", func := "pyx/pyxlaw08.DerMatchesReference", spec := "derMatchesReference", inPlace := ["internal/reflectlite.ValueOf", "(internal/reflectlite.Value).Type", "(internal/reflectlite.Value).IsNil", "internal/reflectlite.TypeOf", "(internal/reflectlite.Value).Elem", "(internal/reflectlite.Value).Set"], unfollowed := true, recurses := true, named := ["errors.errorType"], apart := false, laid := [("errors.errorType", laid_errors_errorType)], narrowed := true }
def DerMatchesReferenceUptoSaid : Prop := derMatchesReferenceUptoRow.holds Tryd.pinned (OpenSpec.upto derMatchesReferenceSpec)

/-- 'pyxlaw08.DerSame', WHERE WHAT IT READS IS OF BULK AT MOST 1048576: true; the input reads as it did. -/
def derSameUptoRow : OpenClaim := { program := "ytijmigapdcikpaadoor", sum := "af4f3134c7a8ead7973f8b872a7fb4ffaff285b9828c623d431274d6d35bfe39", func := "pyx/pyxlaw08.DerSame", spec := "derSame", inPlace := ["internal/reflectlite.ValueOf", "(internal/reflectlite.Value).Type", "(internal/reflectlite.Value).IsNil", "internal/reflectlite.TypeOf", "(internal/reflectlite.Value).Elem", "(internal/reflectlite.Value).Set"], unfollowed := true, recurses := true, named := ["errors.errorType"], loops := true, apart := false, laid := [("errors.errorType", laid_errors_errorType)], narrowed := true }
def DerSameUptoSaid : Prop := derSameUptoRow.holds Tryd.pinned (OpenSpec.upto derSameSpec)

/-- 'pyxlaw08.DerLimits', WHERE WHAT IT READS IS OF BULK AT MOST 1048576: true; the input reads as it did. -/
def derLimitsUptoRow : OpenClaim := { program := "ytijmigapdcikpaadoor", sum := "af4f3134c7a8ead7973f8b872a7fb4ffaff285b9828c623d431274d6d35bfe39", func := "pyx/pyxlaw08.DerLimits", spec := "derLimits", inPlace := ["internal/reflectlite.ValueOf", "(internal/reflectlite.Value).Type", "(internal/reflectlite.Value).IsNil", "internal/reflectlite.TypeOf", "(internal/reflectlite.Value).Elem", "(internal/reflectlite.Value).Set"], unfollowed := true, recurses := true, named := ["errors.errorType"], apart := false, laid := [("errors.errorType", laid_errors_errorType)], narrowed := true }
def DerLimitsUptoSaid : Prop := derLimitsUptoRow.holds Tryd.pinned (OpenSpec.upto derLimitsSpec)

/-- 'pyxlaw08.DerDeep', WHERE WHAT IT READS IS OF BULK AT MOST 1048576: true; the input reads as it did. -/
def derDeepUptoRow : OpenClaim := { program := "ytijmigapdcikpaadoor", sum := "af4f3134c7a8ead7973f8b872a7fb4ffaff285b9828c623d431274d6d35bfe39", func := "pyx/pyxlaw08.DerDeep", spec := "derDeep", inPlace := ["internal/reflectlite.ValueOf", "(internal/reflectlite.Value).Type", "(internal/reflectlite.Value).IsNil", "internal/reflectlite.TypeOf", "(internal/reflectlite.Value).Elem", "(internal/reflectlite.Value).Set"], unfollowed := true, recurses := true, named := ["errors.errorType"], apart := false, laid := [("errors.errorType", laid_errors_errorType)], narrowed := true }
def DerDeepUptoSaid : Prop := derDeepUptoRow.holds Tryd.pinned (OpenSpec.upto derDeepSpec)

/-- 'pyxlaw21.LmsParts', WHERE WHAT IT READS IS OF BULK AT MOST 1048576: true; the input reads as it did. -/
def lmsPartsUptoRow : OpenClaim := { program := "ytijmigapdcikpaadoor", sum := "af4f3134c7a8ead7973f8b872a7fb4ffaff285b9828c623d431274d6d35bfe39", func := "pyx/pyxlaw21.LmsParts", spec := "lmsParts", inPlace := ["internal/reflectlite.ValueOf", "(internal/reflectlite.Value).Type", "(internal/reflectlite.Value).IsNil", "internal/reflectlite.TypeOf", "(internal/reflectlite.Value).Elem", "(internal/reflectlite.Value).Set"], unfollowed := true, recurses := true, named := ["pyx/lms.heights", "pyx/lms.chains", "errors.errorType"], apart := false, laid := [("errors.errorType", laid_errors_errorType), ("pyx/lms.heights", laid_pyx_lms_heights), ("pyx/lms.chains", laid_pyx_lms_chains)], narrowed := true }
def LmsPartsUptoSaid : Prop := lmsPartsUptoRow.holds Tryd.pinned (OpenSpec.upto lmsPartsSpec)

/-- 'pyxlaw21.LmsSizes', WHERE WHAT IT READS IS OF BULK AT MOST 1048576: true; the input reads as it did. -/
def lmsSizesUptoRow : OpenClaim := { program := "ytijmigapdcikpaadoor", sum := "af4f3134c7a8ead7973f8b872a7fb4ffaff285b9828c623d431274d6d35bfe39", func := "pyx/pyxlaw21.LmsSizes", spec := "lmsSizes", inPlace := ["internal/reflectlite.ValueOf", "(internal/reflectlite.Value).Type", "(internal/reflectlite.Value).IsNil", "internal/reflectlite.TypeOf", "(internal/reflectlite.Value).Elem", "(internal/reflectlite.Value).Set"], unfollowed := true, recurses := true, named := ["pyx/lms.heights", "pyx/lms.chains", "errors.errorType"], apart := false, laid := [("errors.errorType", laid_errors_errorType), ("pyx/lms.heights", laid_pyx_lms_heights), ("pyx/lms.chains", laid_pyx_lms_chains)], narrowed := true }
def LmsSizesUptoSaid : Prop := lmsSizesUptoRow.holds Tryd.pinned (OpenSpec.upto lmsSizesSpec)

/-- 'pyxlaw21.LmsMakes', WHERE WHAT IT READS IS OF BULK AT MOST 1048576: true; the input reads as it did. -/
def lmsMakesUptoRow : OpenClaim := { program := "ytijmigapdcikpaadoor", sum := "af4f3134c7a8ead7973f8b872a7fb4ffaff285b9828c623d431274d6d35bfe39", func := "pyx/pyxlaw21.LmsMakes", spec := "lmsMakes", inPlace := ["internal/reflectlite.ValueOf", "(internal/reflectlite.Value).Type", "(internal/reflectlite.Value).IsNil", "internal/reflectlite.TypeOf", "(internal/reflectlite.Value).Elem", "(internal/reflectlite.Value).Set"], unfollowed := true, recurses := true, named := ["pyx/lms.heights", "pyx/lms.chains", "errors.errorType"], apart := false, laid := [("errors.errorType", laid_errors_errorType), ("pyx/lms.heights", laid_pyx_lms_heights), ("pyx/lms.chains", laid_pyx_lms_chains)], narrowed := true }
def LmsMakesUptoSaid : Prop := lmsMakesUptoRow.holds Tryd.pinned (OpenSpec.upto lmsMakesSpec)

/-- 'pyxlaw21.LmsCuts', WHERE WHAT IT READS IS OF BULK AT MOST 1048576: true; the input reads as it did. -/
def lmsCutsUptoRow : OpenClaim := { program := "ytijmigapdcikpaadoor", sum := "af4f3134c7a8ead7973f8b872a7fb4ffaff285b9828c623d431274d6d35bfe39", func := "pyx/pyxlaw21.LmsCuts", spec := "lmsCuts", inPlace := ["internal/reflectlite.ValueOf", "(internal/reflectlite.Value).Type", "(internal/reflectlite.Value).IsNil", "internal/reflectlite.TypeOf", "(internal/reflectlite.Value).Elem", "(internal/reflectlite.Value).Set"], unfollowed := true, recurses := true, named := ["pyx/lms.heights", "pyx/lms.chains", "errors.errorType"], apart := false, laid := [("errors.errorType", laid_errors_errorType), ("pyx/lms.heights", laid_pyx_lms_heights), ("pyx/lms.chains", laid_pyx_lms_chains)], narrowed := true }
def LmsCutsUptoSaid : Prop := lmsCutsUptoRow.holds Tryd.pinned (OpenSpec.upto lmsCutsSpec)

end Rows
end Go.Proofs.YtijmigapdcikpaaDoor
