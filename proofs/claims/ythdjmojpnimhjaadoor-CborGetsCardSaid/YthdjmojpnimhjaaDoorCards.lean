/-
  DERIVED. GIVEN WITH THE SEED: THE CARDS: each row of YthdjmojpnimhjaaDoorRows.lean that lists a variable, with what it lists TIED to the program's text (the seventh form; the later family's looks); each row that meets fmt, with fmt's text TOLD by the authors' own Lean function (tested against real Go, not proved from fmt's source: count such statements apart). THE CARD IS WHAT COUNTS. Prove the row's statement (the work); the ties are given (YthdjmojpnimhjaaDoorTie.lean); close each card by the builder's one call (the guide's Derived/Test/ToyasCard.lean, 'card_holds'). Laid BY PROGRAM, IN A SANDBOX (cutbox-door.mjs). By AI agents, Wed Nov 11 2026. No macro, syntax, notation, axiom, sorry.
-/
import Derived.Test.YthdjmojpnimhjaaDoorRows
import GoSem.ClaimSeven
namespace Go.Proofs.YthdjmojpnimhjaaDoor
namespace Rows

/-- THE TIED CARD OF 'pyxlaw10.CborMatchesReference'. -/
def cborMatchesReferenceCard : Claim7 := { stood := { row := cborMatchesReferenceRow, standIns := [], harness := (true, "3d4e24e83a7db5b68aec081c7e795acae505f64f650a2a35713d0b06746a0695"), looks := true }, kinds := [], alts := [], laidByText := true, laidKinds := [.handle], laidTests := true, laidLooks := .later }
def CborMatchesReferenceCardSaid : Prop := Claim7.holds Tryd.pinned (.plain (OpenSpec.ofChange cborMatchesReferenceSpec)) cborMatchesReferenceCard

/-- THE TIED CARD OF 'pyxlaw10.CborEncodes'. -/
def cborEncodesCard : Claim7 := { stood := { row := cborEncodesRow, standIns := [], harness := (true, "3d4e24e83a7db5b68aec081c7e795acae505f64f650a2a35713d0b06746a0695"), looks := true }, kinds := [], alts := [], laidByText := true, laidKinds := [.handle], laidTests := true, laidLooks := .later }
def CborEncodesCardSaid : Prop := Claim7.holds Tryd.pinned (.plain (OpenSpec.ofChange cborEncodesSpec)) cborEncodesCard

/-- THE TIED CARD OF 'pyxlaw10.CborInts'. -/
def cborIntsCard : Claim7 := { stood := { row := cborIntsRow, standIns := [], harness := (true, "3d4e24e83a7db5b68aec081c7e795acae505f64f650a2a35713d0b06746a0695"), looks := true }, kinds := [], alts := [], laidByText := true, laidKinds := [.handle], laidTests := true, laidLooks := .later }
def CborIntsCardSaid : Prop := Claim7.holds Tryd.pinned (.plain (OpenSpec.ofChange cborIntsSpec)) cborIntsCard

/-- THE TIED CARD OF 'pyxlaw10.CborGets'. -/
def cborGetsCard : Claim7 := { stood := { row := cborGetsRow, standIns := [], harness := (true, "3d4e24e83a7db5b68aec081c7e795acae505f64f650a2a35713d0b06746a0695"), looks := true }, kinds := [], alts := [], laidByText := true, laidKinds := [.handle], laidTests := true, laidLooks := .later }
def CborGetsCardSaid : Prop := Claim7.holds Tryd.pinned (.plain (OpenSpec.ofChange cborGetsSpec)) cborGetsCard

/-- THE TIED CARD OF 'pyxlaw10.CborLimits'. -/
def cborLimitsCard : Claim7 := { stood := { row := cborLimitsRow, standIns := [], harness := (true, "3d4e24e83a7db5b68aec081c7e795acae505f64f650a2a35713d0b06746a0695"), looks := true }, kinds := [], alts := [], laidByText := true, laidKinds := [.handle], laidTests := true, laidLooks := .later }
def CborLimitsCardSaid : Prop := Claim7.holds Tryd.pinned (.plain (OpenSpec.ofChange cborLimitsSpec)) cborLimitsCard

/-- THE TIED CARD OF 'pyxlaw11.JsonMatchesReference'. -/
def jsonMatchesReferenceCard : Claim7 := { stood := { row := jsonMatchesReferenceRow, standIns := [], harness := (true, "3d4e24e83a7db5b68aec081c7e795acae505f64f650a2a35713d0b06746a0695"), looks := true }, kinds := [], alts := [], laidByText := true, laidKinds := [.handle], laidTests := true, laidLooks := .later }
def JsonMatchesReferenceCardSaid : Prop := Claim7.holds Tryd.pinned (.plain (OpenSpec.ofChange jsonMatchesReferenceSpec)) jsonMatchesReferenceCard

/-- THE TIED CARD OF 'pyxlaw11.JsonEncodes'. -/
def jsonEncodesCard : Claim7 := { stood := { row := jsonEncodesRow, standIns := [], harness := (true, "3d4e24e83a7db5b68aec081c7e795acae505f64f650a2a35713d0b06746a0695"), looks := true }, kinds := [], alts := [], laidByText := true, laidKinds := [.handle], laidTests := true, laidLooks := .later }
def JsonEncodesCardSaid : Prop := Claim7.holds Tryd.pinned (.plain (OpenSpec.ofChange jsonEncodesSpec)) jsonEncodesCard

/-- THE TIED CARD OF 'pyxlaw11.JsonSorts'. -/
def jsonSortsCard : Claim7 := { stood := { row := jsonSortsRow, standIns := [], harness := (true, "3d4e24e83a7db5b68aec081c7e795acae505f64f650a2a35713d0b06746a0695"), looks := true }, kinds := [], alts := [], laidByText := true, laidKinds := [.handle], laidTests := true, laidLooks := .later }
def JsonSortsCardSaid : Prop := Claim7.holds Tryd.pinned (.plain (OpenSpec.ofChange jsonSortsSpec)) jsonSortsCard

/-- THE TIED CARD OF 'pyxlaw11.JsonParts'. -/
def jsonPartsCard : Claim7 := { stood := { row := jsonPartsRow, standIns := [], harness := (true, "3d4e24e83a7db5b68aec081c7e795acae505f64f650a2a35713d0b06746a0695"), looks := true }, kinds := [], alts := [], laidByText := true, laidKinds := [.handle], laidTests := true, laidLooks := .later }
def JsonPartsCardSaid : Prop := Claim7.holds Tryd.pinned (.plain (OpenSpec.ofChange jsonPartsSpec)) jsonPartsCard

/-- THE TIED CARD OF 'pyxlaw11.JsonLimits'. -/
def jsonLimitsCard : Claim7 := { stood := { row := jsonLimitsRow, standIns := [], harness := (true, "3d4e24e83a7db5b68aec081c7e795acae505f64f650a2a35713d0b06746a0695"), looks := true }, kinds := [], alts := [], laidByText := true, laidKinds := [.handle], laidTests := true, laidLooks := .later }
def JsonLimitsCardSaid : Prop := Claim7.holds Tryd.pinned (.plain (OpenSpec.ofChange jsonLimitsSpec)) jsonLimitsCard

/-- THE SECOND FORM's CARD OF 'pyxlaw10.CborMatchesReference'. -/
def cborMatchesReferenceUptoCard : Claim7 := { stood := { row := cborMatchesReferenceUptoRow, standIns := [], harness := (true, "3d4e24e83a7db5b68aec081c7e795acae505f64f650a2a35713d0b06746a0695"), looks := true }, kinds := [], alts := [], laidByText := true, laidKinds := [.handle], laidTests := true, laidLooks := .later }
def CborMatchesReferenceUptoCardSaid : Prop := Claim7.holds Tryd.pinned (.plain (OpenSpec.upto cborMatchesReferenceSpec)) cborMatchesReferenceUptoCard

/-- THE SECOND FORM's CARD OF 'pyxlaw10.CborEncodes'. -/
def cborEncodesUptoCard : Claim7 := { stood := { row := cborEncodesUptoRow, standIns := [], harness := (true, "3d4e24e83a7db5b68aec081c7e795acae505f64f650a2a35713d0b06746a0695"), looks := true }, kinds := [], alts := [], laidByText := true, laidKinds := [.handle], laidTests := true, laidLooks := .later }
def CborEncodesUptoCardSaid : Prop := Claim7.holds Tryd.pinned (.plain (OpenSpec.upto cborEncodesSpec)) cborEncodesUptoCard

/-- THE SECOND FORM's CARD OF 'pyxlaw10.CborInts'. -/
def cborIntsUptoCard : Claim7 := { stood := { row := cborIntsUptoRow, standIns := [], harness := (true, "3d4e24e83a7db5b68aec081c7e795acae505f64f650a2a35713d0b06746a0695"), looks := true }, kinds := [], alts := [], laidByText := true, laidKinds := [.handle], laidTests := true, laidLooks := .later }
def CborIntsUptoCardSaid : Prop := Claim7.holds Tryd.pinned (.plain (OpenSpec.upto cborIntsSpec)) cborIntsUptoCard

/-- THE SECOND FORM's CARD OF 'pyxlaw10.CborGets'. -/
def cborGetsUptoCard : Claim7 := { stood := { row := cborGetsUptoRow, standIns := [], harness := (true, "3d4e24e83a7db5b68aec081c7e795acae505f64f650a2a35713d0b06746a0695"), looks := true }, kinds := [], alts := [], laidByText := true, laidKinds := [.handle], laidTests := true, laidLooks := .later }
def CborGetsUptoCardSaid : Prop := Claim7.holds Tryd.pinned (.plain (OpenSpec.upto cborGetsSpec)) cborGetsUptoCard

/-- THE SECOND FORM's CARD OF 'pyxlaw10.CborLimits'. -/
def cborLimitsUptoCard : Claim7 := { stood := { row := cborLimitsUptoRow, standIns := [], harness := (true, "3d4e24e83a7db5b68aec081c7e795acae505f64f650a2a35713d0b06746a0695"), looks := true }, kinds := [], alts := [], laidByText := true, laidKinds := [.handle], laidTests := true, laidLooks := .later }
def CborLimitsUptoCardSaid : Prop := Claim7.holds Tryd.pinned (.plain (OpenSpec.upto cborLimitsSpec)) cborLimitsUptoCard

/-- THE SECOND FORM's CARD OF 'pyxlaw11.JsonMatchesReference'. -/
def jsonMatchesReferenceUptoCard : Claim7 := { stood := { row := jsonMatchesReferenceUptoRow, standIns := [], harness := (true, "3d4e24e83a7db5b68aec081c7e795acae505f64f650a2a35713d0b06746a0695"), looks := true }, kinds := [], alts := [], laidByText := true, laidKinds := [.handle], laidTests := true, laidLooks := .later }
def JsonMatchesReferenceUptoCardSaid : Prop := Claim7.holds Tryd.pinned (.plain (OpenSpec.upto jsonMatchesReferenceSpec)) jsonMatchesReferenceUptoCard

/-- THE SECOND FORM's CARD OF 'pyxlaw11.JsonEncodes'. -/
def jsonEncodesUptoCard : Claim7 := { stood := { row := jsonEncodesUptoRow, standIns := [], harness := (true, "3d4e24e83a7db5b68aec081c7e795acae505f64f650a2a35713d0b06746a0695"), looks := true }, kinds := [], alts := [], laidByText := true, laidKinds := [.handle], laidTests := true, laidLooks := .later }
def JsonEncodesUptoCardSaid : Prop := Claim7.holds Tryd.pinned (.plain (OpenSpec.upto jsonEncodesSpec)) jsonEncodesUptoCard

/-- THE SECOND FORM's CARD OF 'pyxlaw11.JsonSorts'. -/
def jsonSortsUptoCard : Claim7 := { stood := { row := jsonSortsUptoRow, standIns := [], harness := (true, "3d4e24e83a7db5b68aec081c7e795acae505f64f650a2a35713d0b06746a0695"), looks := true }, kinds := [], alts := [], laidByText := true, laidKinds := [.handle], laidTests := true, laidLooks := .later }
def JsonSortsUptoCardSaid : Prop := Claim7.holds Tryd.pinned (.plain (OpenSpec.upto jsonSortsSpec)) jsonSortsUptoCard

/-- THE SECOND FORM's CARD OF 'pyxlaw11.JsonParts'. -/
def jsonPartsUptoCard : Claim7 := { stood := { row := jsonPartsUptoRow, standIns := [], harness := (true, "3d4e24e83a7db5b68aec081c7e795acae505f64f650a2a35713d0b06746a0695"), looks := true }, kinds := [], alts := [], laidByText := true, laidKinds := [.handle], laidTests := true, laidLooks := .later }
def JsonPartsUptoCardSaid : Prop := Claim7.holds Tryd.pinned (.plain (OpenSpec.upto jsonPartsSpec)) jsonPartsUptoCard

/-- THE SECOND FORM's CARD OF 'pyxlaw11.JsonLimits'. -/
def jsonLimitsUptoCard : Claim7 := { stood := { row := jsonLimitsUptoRow, standIns := [], harness := (true, "3d4e24e83a7db5b68aec081c7e795acae505f64f650a2a35713d0b06746a0695"), looks := true }, kinds := [], alts := [], laidByText := true, laidKinds := [.handle], laidTests := true, laidLooks := .later }
def JsonLimitsUptoCardSaid : Prop := Claim7.holds Tryd.pinned (.plain (OpenSpec.upto jsonLimitsSpec)) jsonLimitsUptoCard
end Rows
end Go.Proofs.YthdjmojpnimhjaaDoor
