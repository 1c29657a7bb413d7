/-
  DERIVED. GIVEN WITH THE SEED: THE CARDS: each row of YtijmigapdcikpaaDoorRows.lean that lists a variable, with what it lists TIED to the program's text (the seventh form; the later family's looks); each row that meets fmt, with fmt's text TOLD by the authors' own Lean function (tested against real Go, not proved from fmt's source: count such statements apart). THE CARD IS WHAT COUNTS. Prove the row's statement (the work); the ties are given (YtijmigapdcikpaaDoorTie.lean); close each card by the builder's one call (the guide's Derived/Test/ToyasCard.lean, 'card_holds'). Laid BY PROGRAM, IN A SANDBOX (cutbox-door.mjs). By AI agents, Wed Nov 11 2026. No macro, syntax, notation, axiom, sorry.
-/
import Derived.Test.YtijmigapdcikpaaDoorRows
import GoSem.ClaimSeven
namespace Go.Proofs.YtijmigapdcikpaaDoor
namespace Rows

/-- THE TIED CARD OF 'pyxlaw08.DerMatchesReference'. -/
def derMatchesReferenceCard : Claim7 := { stood := { row := derMatchesReferenceRow, standIns := [], harness := (true, "0223e6ace490ae8712bdcb418058af544b7280b48d28dbb85c6da5591ff53271"), looks := true }, kinds := [], alts := [], laidByText := true, laidKinds := [.handle], laidTests := true, laidLooks := .later }
def DerMatchesReferenceCardSaid : Prop := Claim7.holds Tryd.pinned (.plain (OpenSpec.ofChange derMatchesReferenceSpec)) derMatchesReferenceCard

/-- THE TIED CARD OF 'pyxlaw08.DerSame'. -/
def derSameCard : Claim7 := { stood := { row := derSameRow, standIns := [], harness := (true, "0223e6ace490ae8712bdcb418058af544b7280b48d28dbb85c6da5591ff53271"), looks := true }, kinds := [], alts := [], laidByText := true, laidKinds := [.handle], laidTests := true, laidLooks := .later }
def DerSameCardSaid : Prop := Claim7.holds Tryd.pinned (.plain (OpenSpec.ofChange derSameSpec)) derSameCard

/-- THE TIED CARD OF 'pyxlaw08.DerLimits'. -/
def derLimitsCard : Claim7 := { stood := { row := derLimitsRow, standIns := [], harness := (true, "0223e6ace490ae8712bdcb418058af544b7280b48d28dbb85c6da5591ff53271"), looks := true }, kinds := [], alts := [], laidByText := true, laidKinds := [.handle], laidTests := true, laidLooks := .later }
def DerLimitsCardSaid : Prop := Claim7.holds Tryd.pinned (.plain (OpenSpec.ofChange derLimitsSpec)) derLimitsCard

/-- THE TIED CARD OF 'pyxlaw08.DerDeep'. -/
def derDeepCard : Claim7 := { stood := { row := derDeepRow, standIns := [], harness := (true, "0223e6ace490ae8712bdcb418058af544b7280b48d28dbb85c6da5591ff53271"), looks := true }, kinds := [], alts := [], laidByText := true, laidKinds := [.handle], laidTests := true, laidLooks := .later }
def DerDeepCardSaid : Prop := Claim7.holds Tryd.pinned (.plain (OpenSpec.ofChange derDeepSpec)) derDeepCard

/-- THE TIED CARD OF 'pyxlaw21.LmsParts'. -/
def lmsPartsCard : Claim7 := { stood := { row := lmsPartsRow, standIns := [], harness := (true, "0223e6ace490ae8712bdcb418058af544b7280b48d28dbb85c6da5591ff53271"), looks := true }, kinds := [], alts := [], laidByText := true, laidKinds := [.handle, .data, .data], laidTests := true, laidLooks := .later }
def LmsPartsCardSaid : Prop := Claim7.holds Tryd.pinned (.plain (OpenSpec.ofChange lmsPartsSpec)) lmsPartsCard

/-- THE TIED CARD OF 'pyxlaw21.LmsSizes'. -/
def lmsSizesCard : Claim7 := { stood := { row := lmsSizesRow, standIns := [], harness := (true, "0223e6ace490ae8712bdcb418058af544b7280b48d28dbb85c6da5591ff53271"), looks := true }, kinds := [], alts := [], laidByText := true, laidKinds := [.handle, .data, .data], laidTests := true, laidLooks := .later }
def LmsSizesCardSaid : Prop := Claim7.holds Tryd.pinned (.plain (OpenSpec.ofChange lmsSizesSpec)) lmsSizesCard

/-- THE TIED CARD OF 'pyxlaw21.LmsMakes'. -/
def lmsMakesCard : Claim7 := { stood := { row := lmsMakesRow, standIns := [], harness := (true, "0223e6ace490ae8712bdcb418058af544b7280b48d28dbb85c6da5591ff53271"), looks := true }, kinds := [], alts := [], laidByText := true, laidKinds := [.handle, .data, .data], laidTests := true, laidLooks := .later }
def LmsMakesCardSaid : Prop := Claim7.holds Tryd.pinned (.plain (OpenSpec.ofChange lmsMakesSpec)) lmsMakesCard

/-- THE TIED CARD OF 'pyxlaw21.LmsCuts'. -/
def lmsCutsCard : Claim7 := { stood := { row := lmsCutsRow, standIns := [], harness := (true, "0223e6ace490ae8712bdcb418058af544b7280b48d28dbb85c6da5591ff53271"), looks := true }, kinds := [], alts := [], laidByText := true, laidKinds := [.handle, .data, .data], laidTests := true, laidLooks := .later }
def LmsCutsCardSaid : Prop := Claim7.holds Tryd.pinned (.plain (OpenSpec.ofChange lmsCutsSpec)) lmsCutsCard

/-- THE SECOND FORM's CARD OF 'pyxlaw08.DerMatchesReference'. -/
def derMatchesReferenceUptoCard : Claim7 := { stood := { row := derMatchesReferenceUptoRow, standIns := [], harness := (true, "0223e6ace490ae8712bdcb418058af544b7280b48d28dbb85c6da5591ff53271"), looks := true }, kinds := [], alts := [], laidByText := true, laidKinds := [.handle], laidTests := true, laidLooks := .later }
def DerMatchesReferenceUptoCardSaid : Prop := Claim7.holds Tryd.pinned (.plain (OpenSpec.upto derMatchesReferenceSpec)) derMatchesReferenceUptoCard

/-- THE SECOND FORM's CARD OF 'pyxlaw08.DerSame'. -/
def derSameUptoCard : Claim7 := { stood := { row := derSameUptoRow, standIns := [], harness := (true, "0223e6ace490ae8712bdcb418058af544b7280b48d28dbb85c6da5591ff53271"), looks := true }, kinds := [], alts := [], laidByText := true, laidKinds := [.handle], laidTests := true, laidLooks := .later }
def DerSameUptoCardSaid : Prop := Claim7.holds Tryd.pinned (.plain (OpenSpec.upto derSameSpec)) derSameUptoCard

/-- THE SECOND FORM's CARD OF 'pyxlaw08.DerLimits'. -/
def derLimitsUptoCard : Claim7 := { stood := { row := derLimitsUptoRow, standIns := [], harness := (true, "0223e6ace490ae8712bdcb418058af544b7280b48d28dbb85c6da5591ff53271"), looks := true }, kinds := [], alts := [], laidByText := true, laidKinds := [.handle], laidTests := true, laidLooks := .later }
def DerLimitsUptoCardSaid : Prop := Claim7.holds Tryd.pinned (.plain (OpenSpec.upto derLimitsSpec)) derLimitsUptoCard

/-- THE SECOND FORM's CARD OF 'pyxlaw08.DerDeep'. -/
def derDeepUptoCard : Claim7 := { stood := { row := derDeepUptoRow, standIns := [], harness := (true, "0223e6ace490ae8712bdcb418058af544b7280b48d28dbb85c6da5591ff53271"), looks := true }, kinds := [], alts := [], laidByText := true, laidKinds := [.handle], laidTests := true, laidLooks := .later }
def DerDeepUptoCardSaid : Prop := Claim7.holds Tryd.pinned (.plain (OpenSpec.upto derDeepSpec)) derDeepUptoCard

/-- THE SECOND FORM's CARD OF 'pyxlaw21.LmsParts'. -/
def lmsPartsUptoCard : Claim7 := { stood := { row := lmsPartsUptoRow, standIns := [], harness := (true, "0223e6ace490ae8712bdcb418058af544b7280b48d28dbb85c6da5591ff53271"), looks := true }, kinds := [], alts := [], laidByText := true, laidKinds := [.handle, .data, .data], laidTests := true, laidLooks := .later }
def LmsPartsUptoCardSaid : Prop := Claim7.holds Tryd.pinned (.plain (OpenSpec.upto lmsPartsSpec)) lmsPartsUptoCard

/-- THE SECOND FORM's CARD OF 'pyxlaw21.LmsSizes'. -/
def lmsSizesUptoCard : Claim7 := { stood := { row := lmsSizesUptoRow, standIns := [], harness := (true, "0223e6ace490ae8712bdcb418058af544b7280b48d28dbb85c6da5591ff53271"), looks := true }, kinds := [], alts := [], laidByText := true, laidKinds := [.handle, .data, .data], laidTests := true, laidLooks := .later }
def LmsSizesUptoCardSaid : Prop := Claim7.holds Tryd.pinned (.plain (OpenSpec.upto lmsSizesSpec)) lmsSizesUptoCard

/-- THE SECOND FORM's CARD OF 'pyxlaw21.LmsMakes'. -/
def lmsMakesUptoCard : Claim7 := { stood := { row := lmsMakesUptoRow, standIns := [], harness := (true, "0223e6ace490ae8712bdcb418058af544b7280b48d28dbb85c6da5591ff53271"), looks := true }, kinds := [], alts := [], laidByText := true, laidKinds := [.handle, .data, .data], laidTests := true, laidLooks := .later }
def LmsMakesUptoCardSaid : Prop := Claim7.holds Tryd.pinned (.plain (OpenSpec.upto lmsMakesSpec)) lmsMakesUptoCard

/-- THE SECOND FORM's CARD OF 'pyxlaw21.LmsCuts'. -/
def lmsCutsUptoCard : Claim7 := { stood := { row := lmsCutsUptoRow, standIns := [], harness := (true, "0223e6ace490ae8712bdcb418058af544b7280b48d28dbb85c6da5591ff53271"), looks := true }, kinds := [], alts := [], laidByText := true, laidKinds := [.handle, .data, .data], laidTests := true, laidLooks := .later }
def LmsCutsUptoCardSaid : Prop := Claim7.holds Tryd.pinned (.plain (OpenSpec.upto lmsCutsSpec)) lmsCutsUptoCard
end Rows
end Go.Proofs.YtijmigapdcikpaaDoor
