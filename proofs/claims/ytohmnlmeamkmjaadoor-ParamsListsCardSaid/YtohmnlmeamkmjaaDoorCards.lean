/-
  DERIVED. GIVEN WITH THE SEED: THE CARDS: each row of YtohmnlmeamkmjaaDoorRows.lean that lists a variable, with what it lists TIED to the program's text (the seventh form; the later family's looks); each row that meets fmt, with fmt's text TOLD by the authors' own Lean function (tested against real Go, not proved from fmt's source: count such statements apart). THE CARD IS WHAT COUNTS. Prove the row's statement (the work); the ties are given (YtohmnlmeamkmjaaDoorTie.lean); close each card by the builder's one call (the guide's Derived/Test/ToyasCard.lean, 'card_holds'). Laid BY PROGRAM, IN A SANDBOX (cutbox-door.mjs). By AI agents, Wed Nov 11 2026. No macro, syntax, notation, axiom, sorry.
-/
import Derived.Test.YtohmnlmeamkmjaaDoorRows
import GoSem.ClaimSeven
namespace Go.Proofs.YtohmnlmeamkmjaaDoor
namespace Rows

/-- THE TIED CARD OF 'pyxlaw09.OidMatchesReference'. -/
def oidMatchesReferenceCard : Claim7 := { stood := { row := oidMatchesReferenceRow, standIns := [], harness := (true, "c74db8ce47edfa4110c94cb9d169fdaa322370542049f09d055cf4fdba874377"), looks := true }, kinds := [], alts := [], laidByText := true, laidKinds := [.data, .data, .data, .data, .sentinel, .sentinel, .pinned], laidTests := true, laidLooks := .later }
def OidMatchesReferenceCardSaid : Prop := Claim7.holds Tryd.pinned (.plain (OpenSpec.ofChange oidMatchesReferenceSpec)) oidMatchesReferenceCard

/-- THE TIED CARD OF 'pyxlaw09.OidParses'. -/
def oidParsesCard : Claim7 := { stood := { row := oidParsesRow, standIns := [], harness := (true, "c74db8ce47edfa4110c94cb9d169fdaa322370542049f09d055cf4fdba874377"), looks := true }, kinds := [], alts := [], laidByText := true, laidKinds := [.data, .data, .data, .data, .sentinel, .sentinel, .pinned], laidTests := true, laidLooks := .later }
def OidParsesCardSaid : Prop := Claim7.holds Tryd.pinned (.plain (OpenSpec.ofChange oidParsesSpec)) oidParsesCard

/-- THE TIED CARD OF 'pyxlaw09.OidReads'. -/
def oidReadsCard : Claim7 := { stood := { row := oidReadsRow, standIns := [], harness := (true, "c74db8ce47edfa4110c94cb9d169fdaa322370542049f09d055cf4fdba874377"), looks := true }, kinds := [], alts := [], laidByText := true, laidKinds := [.data, .data, .data, .data, .sentinel, .sentinel, .pinned], laidTests := true, laidLooks := .later }
def OidReadsCardSaid : Prop := Claim7.holds Tryd.pinned (.plain (OpenSpec.ofChange oidReadsSpec)) oidReadsCard

/-- THE TIED CARD OF 'pyxlaw09.OidBelow'. -/
def oidBelowCard : Claim7 := { stood := { row := oidBelowRow, standIns := [], harness := (true, "c74db8ce47edfa4110c94cb9d169fdaa322370542049f09d055cf4fdba874377"), looks := true }, kinds := [], alts := [], laidByText := true, laidKinds := [.data, .data, .data, .data, .sentinel, .sentinel, .pinned], laidTests := true, laidLooks := .later }
def OidBelowCardSaid : Prop := Claim7.holds Tryd.pinned (.plain (OpenSpec.ofChange oidBelowSpec)) oidBelowCard

/-- THE TIED CARD OF 'pyxlaw09.OidApart'. -/
def oidApartCard : Claim7 := { stood := { row := oidApartRow, standIns := [], harness := (true, "c74db8ce47edfa4110c94cb9d169fdaa322370542049f09d055cf4fdba874377"), looks := true }, kinds := [], alts := [], laidByText := true, laidKinds := [.data, .data, .data, .data, .sentinel, .sentinel, .pinned], laidTests := true, laidLooks := .later }
def OidApartCardSaid : Prop := Claim7.holds Tryd.pinned (.plain (OpenSpec.ofChange oidApartSpec)) oidApartCard

/-- THE TIED CARD OF 'pyxlaw13.ParamsMatchesReference'. -/
def paramsMatchesReferenceCard : Claim7 := { stood := { row := paramsMatchesReferenceRow, standIns := [], harness := (true, "c74db8ce47edfa4110c94cb9d169fdaa322370542049f09d055cf4fdba874377"), looks := true }, kinds := [], alts := [], laidByText := true, laidKinds := [.data, .data, .data, .data, .sentinel, .sentinel, .pinned], laidTests := true, laidLooks := .later }
def ParamsMatchesReferenceCardSaid : Prop := Claim7.holds Tryd.pinned (.plain (OpenSpec.ofChange paramsMatchesReferenceSpec)) paramsMatchesReferenceCard

/-- THE TIED CARD OF 'pyxlaw13.ParamsLists'. -/
def paramsListsCard : Claim7 := { stood := { row := paramsListsRow, standIns := [], harness := (true, "c74db8ce47edfa4110c94cb9d169fdaa322370542049f09d055cf4fdba874377"), looks := true }, kinds := [], alts := [], laidByText := true, laidKinds := [.data, .data, .data, .data, .sentinel, .sentinel, .pinned], laidTests := true, laidLooks := .later }
def ParamsListsCardSaid : Prop := Claim7.holds Tryd.pinned (.plain (OpenSpec.ofChange paramsListsSpec)) paramsListsCard

/-- THE TIED CARD OF 'pyxlaw13.ParamsSizes'. -/
def paramsSizesCard : Claim7 := { stood := { row := paramsSizesRow, standIns := [], harness := (true, "c74db8ce47edfa4110c94cb9d169fdaa322370542049f09d055cf4fdba874377"), looks := true }, kinds := [], alts := [], laidByText := true, laidKinds := [.data, .data, .data, .data, .sentinel, .sentinel, .pinned], laidTests := true, laidLooks := .later }
def ParamsSizesCardSaid : Prop := Claim7.holds Tryd.pinned (.plain (OpenSpec.ofChange paramsSizesSpec)) paramsSizesCard

/-- THE TIED CARD OF 'pyxlaw13.ParamsFinds'. -/
def paramsFindsCard : Claim7 := { stood := { row := paramsFindsRow, standIns := [], harness := (true, "c74db8ce47edfa4110c94cb9d169fdaa322370542049f09d055cf4fdba874377"), looks := true }, kinds := [], alts := [], laidByText := true, laidKinds := [.data, .data, .data, .data, .sentinel, .sentinel, .pinned], laidTests := true, laidLooks := .later }
def ParamsFindsCardSaid : Prop := Claim7.holds Tryd.pinned (.plain (OpenSpec.ofChange paramsFindsSpec)) paramsFindsCard

/-- THE TIED CARD OF 'pyxlaw13.ParamsApart'. -/
def paramsApartCard : Claim7 := { stood := { row := paramsApartRow, standIns := [], harness := (true, "c74db8ce47edfa4110c94cb9d169fdaa322370542049f09d055cf4fdba874377"), looks := true }, kinds := [], alts := [], laidByText := true, laidKinds := [.data, .data, .data, .data, .sentinel, .sentinel, .pinned], laidTests := true, laidLooks := .later }
def ParamsApartCardSaid : Prop := Claim7.holds Tryd.pinned (.plain (OpenSpec.ofChange paramsApartSpec)) paramsApartCard

/-- THE SECOND FORM's CARD OF 'pyxlaw09.OidMatchesReference'. -/
def oidMatchesReferenceUptoCard : Claim7 := { stood := { row := oidMatchesReferenceUptoRow, standIns := [], harness := (true, "c74db8ce47edfa4110c94cb9d169fdaa322370542049f09d055cf4fdba874377"), looks := true }, kinds := [], alts := [], laidByText := true, laidKinds := [.data, .data, .data, .data, .sentinel, .sentinel, .pinned], laidTests := true, laidLooks := .later }
def OidMatchesReferenceUptoCardSaid : Prop := Claim7.holds Tryd.pinned (.plain (OpenSpec.upto oidMatchesReferenceSpec)) oidMatchesReferenceUptoCard

/-- THE SECOND FORM's CARD OF 'pyxlaw09.OidParses'. -/
def oidParsesUptoCard : Claim7 := { stood := { row := oidParsesUptoRow, standIns := [], harness := (true, "c74db8ce47edfa4110c94cb9d169fdaa322370542049f09d055cf4fdba874377"), looks := true }, kinds := [], alts := [], laidByText := true, laidKinds := [.data, .data, .data, .data, .sentinel, .sentinel, .pinned], laidTests := true, laidLooks := .later }
def OidParsesUptoCardSaid : Prop := Claim7.holds Tryd.pinned (.plain (OpenSpec.upto oidParsesSpec)) oidParsesUptoCard

/-- THE SECOND FORM's CARD OF 'pyxlaw09.OidReads'. -/
def oidReadsUptoCard : Claim7 := { stood := { row := oidReadsUptoRow, standIns := [], harness := (true, "c74db8ce47edfa4110c94cb9d169fdaa322370542049f09d055cf4fdba874377"), looks := true }, kinds := [], alts := [], laidByText := true, laidKinds := [.data, .data, .data, .data, .sentinel, .sentinel, .pinned], laidTests := true, laidLooks := .later }
def OidReadsUptoCardSaid : Prop := Claim7.holds Tryd.pinned (.plain (OpenSpec.upto oidReadsSpec)) oidReadsUptoCard

/-- THE SECOND FORM's CARD OF 'pyxlaw09.OidBelow'. -/
def oidBelowUptoCard : Claim7 := { stood := { row := oidBelowUptoRow, standIns := [], harness := (true, "c74db8ce47edfa4110c94cb9d169fdaa322370542049f09d055cf4fdba874377"), looks := true }, kinds := [], alts := [], laidByText := true, laidKinds := [.data, .data, .data, .data, .sentinel, .sentinel, .pinned], laidTests := true, laidLooks := .later }
def OidBelowUptoCardSaid : Prop := Claim7.holds Tryd.pinned (.plain (OpenSpec.upto oidBelowSpec)) oidBelowUptoCard

/-- THE SECOND FORM's CARD OF 'pyxlaw09.OidApart'. -/
def oidApartUptoCard : Claim7 := { stood := { row := oidApartUptoRow, standIns := [], harness := (true, "c74db8ce47edfa4110c94cb9d169fdaa322370542049f09d055cf4fdba874377"), looks := true }, kinds := [], alts := [], laidByText := true, laidKinds := [.data, .data, .data, .data, .sentinel, .sentinel, .pinned], laidTests := true, laidLooks := .later }
def OidApartUptoCardSaid : Prop := Claim7.holds Tryd.pinned (.plain (OpenSpec.upto oidApartSpec)) oidApartUptoCard

/-- THE SECOND FORM's CARD OF 'pyxlaw13.ParamsMatchesReference'. -/
def paramsMatchesReferenceUptoCard : Claim7 := { stood := { row := paramsMatchesReferenceUptoRow, standIns := [], harness := (true, "c74db8ce47edfa4110c94cb9d169fdaa322370542049f09d055cf4fdba874377"), looks := true }, kinds := [], alts := [], laidByText := true, laidKinds := [.data, .data, .data, .data, .sentinel, .sentinel, .pinned], laidTests := true, laidLooks := .later }
def ParamsMatchesReferenceUptoCardSaid : Prop := Claim7.holds Tryd.pinned (.plain (OpenSpec.upto paramsMatchesReferenceSpec)) paramsMatchesReferenceUptoCard

/-- THE SECOND FORM's CARD OF 'pyxlaw13.ParamsLists'. -/
def paramsListsUptoCard : Claim7 := { stood := { row := paramsListsUptoRow, standIns := [], harness := (true, "c74db8ce47edfa4110c94cb9d169fdaa322370542049f09d055cf4fdba874377"), looks := true }, kinds := [], alts := [], laidByText := true, laidKinds := [.data, .data, .data, .data, .sentinel, .sentinel, .pinned], laidTests := true, laidLooks := .later }
def ParamsListsUptoCardSaid : Prop := Claim7.holds Tryd.pinned (.plain (OpenSpec.upto paramsListsSpec)) paramsListsUptoCard

/-- THE SECOND FORM's CARD OF 'pyxlaw13.ParamsSizes'. -/
def paramsSizesUptoCard : Claim7 := { stood := { row := paramsSizesUptoRow, standIns := [], harness := (true, "c74db8ce47edfa4110c94cb9d169fdaa322370542049f09d055cf4fdba874377"), looks := true }, kinds := [], alts := [], laidByText := true, laidKinds := [.data, .data, .data, .data, .sentinel, .sentinel, .pinned], laidTests := true, laidLooks := .later }
def ParamsSizesUptoCardSaid : Prop := Claim7.holds Tryd.pinned (.plain (OpenSpec.upto paramsSizesSpec)) paramsSizesUptoCard

/-- THE SECOND FORM's CARD OF 'pyxlaw13.ParamsFinds'. -/
def paramsFindsUptoCard : Claim7 := { stood := { row := paramsFindsUptoRow, standIns := [], harness := (true, "c74db8ce47edfa4110c94cb9d169fdaa322370542049f09d055cf4fdba874377"), looks := true }, kinds := [], alts := [], laidByText := true, laidKinds := [.data, .data, .data, .data, .sentinel, .sentinel, .pinned], laidTests := true, laidLooks := .later }
def ParamsFindsUptoCardSaid : Prop := Claim7.holds Tryd.pinned (.plain (OpenSpec.upto paramsFindsSpec)) paramsFindsUptoCard

/-- THE SECOND FORM's CARD OF 'pyxlaw13.ParamsApart'. -/
def paramsApartUptoCard : Claim7 := { stood := { row := paramsApartUptoRow, standIns := [], harness := (true, "c74db8ce47edfa4110c94cb9d169fdaa322370542049f09d055cf4fdba874377"), looks := true }, kinds := [], alts := [], laidByText := true, laidKinds := [.data, .data, .data, .data, .sentinel, .sentinel, .pinned], laidTests := true, laidLooks := .later }
def ParamsApartUptoCardSaid : Prop := Claim7.holds Tryd.pinned (.plain (OpenSpec.upto paramsApartSpec)) paramsApartUptoCard
end Rows
end Go.Proofs.YtohmnlmeamkmjaaDoor
