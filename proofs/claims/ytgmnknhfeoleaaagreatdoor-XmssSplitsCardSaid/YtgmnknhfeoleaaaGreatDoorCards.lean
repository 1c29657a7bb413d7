/-
  DERIVED. GIVEN WITH THE SEED: THE CARDS: each row of YtgmnknhfeoleaaaGreatDoorRows.lean that lists a variable, with what it lists TIED to the program's text (the seventh form; the later family's looks); each row that meets fmt, with fmt's text TOLD by the authors' own Lean function (tested against real Go, not proved from fmt's source: count such statements apart). THE CARD IS WHAT COUNTS. Prove the row's statement (the work); the ties are given (YtgmnknhfeoleaaaGreatDoorTie.lean); close each card by the builder's one call (the guide's Derived/Test/ToyasCard.lean, 'card_holds'). Laid BY PROGRAM, IN A SANDBOX (cutbox-door.mjs). By AI agents, Wed Nov 11 2026. No macro, syntax, notation, axiom, sorry.
-/
import Derived.Test.YtgmnknhfeoleaaaGreatDoorRows
import GoSem.ClaimSeven
namespace Go.Proofs.YtgmnknhfeoleaaaGreatDoor
namespace Rows

/-- THE TIED CARD OF 'pyxlaw22.XmssMatchesReference'. -/
def xmssMatchesReferenceCard : Claim7 := { stood := { row := xmssMatchesReferenceRow, standIns := [], harness := (true, "2db7bc53e541b3d0845c160203a0261006fa24a09c311deb1a280e9e75890b7f"), looks := true }, kinds := [], alts := [], laidByText := true, laidKinds := [.data, .data, .data, .data, .handle, .sentinel, .sentinel, .pinned], laidTests := true, laidLooks := .later }
def XmssMatchesReferenceCardSaid : Prop := Claim7.holds Tryz.pinned (.plain (OpenSpec.ofChange xmssMatchesReferenceSpec)) xmssMatchesReferenceCard

/-- THE TIED CARD OF 'pyxlaw22.XmssNumbers'. -/
def xmssNumbersCard : Claim7 := { stood := { row := xmssNumbersRow, standIns := [], harness := (true, "2db7bc53e541b3d0845c160203a0261006fa24a09c311deb1a280e9e75890b7f"), looks := true }, kinds := [], alts := [], laidByText := true, laidKinds := [.data, .data, .data, .data, .handle, .sentinel, .sentinel, .pinned], laidTests := true, laidLooks := .later }
def XmssNumbersCardSaid : Prop := Claim7.holds Tryz.pinned (.plain (OpenSpec.ofChange xmssNumbersSpec)) xmssNumbersCard

/-- THE TIED CARD OF 'pyxlaw22.XmssSizes'. -/
def xmssSizesCard : Claim7 := { stood := { row := xmssSizesRow, standIns := [], harness := (true, "2db7bc53e541b3d0845c160203a0261006fa24a09c311deb1a280e9e75890b7f"), looks := true }, kinds := [], alts := [], laidByText := true, laidKinds := [.data, .data, .data, .data, .handle, .sentinel, .sentinel, .pinned], laidTests := true, laidLooks := .later }
def XmssSizesCardSaid : Prop := Claim7.holds Tryz.pinned (.plain (OpenSpec.ofChange xmssSizesSpec)) xmssSizesCard

/-- THE TIED CARD OF 'pyxlaw22.XmssSplits'. -/
def xmssSplitsCard : Claim7 := { stood := { row := xmssSplitsRow, standIns := [], harness := (true, "2db7bc53e541b3d0845c160203a0261006fa24a09c311deb1a280e9e75890b7f"), looks := true }, kinds := [], alts := [], laidByText := true, laidKinds := [.data, .data, .data, .data, .handle, .sentinel, .sentinel, .pinned], laidTests := true, laidLooks := .later }
def XmssSplitsCardSaid : Prop := Claim7.holds Tryz.pinned (.plain (OpenSpec.ofChange xmssSplitsSpec)) xmssSplitsCard

/-- THE TIED CARD OF 'pyxlaw22.XmssJoins'. -/
def xmssJoinsCard : Claim7 := { stood := { row := xmssJoinsRow, standIns := [], harness := (true, "2db7bc53e541b3d0845c160203a0261006fa24a09c311deb1a280e9e75890b7f"), looks := true }, kinds := [], alts := [], laidByText := true, laidKinds := [.data, .data, .data, .data, .handle, .sentinel, .sentinel, .pinned], laidTests := true, laidLooks := .later }
def XmssJoinsCardSaid : Prop := Claim7.holds Tryz.pinned (.plain (OpenSpec.ofChange xmssJoinsSpec)) xmssJoinsCard

/-- THE SECOND FORM's CARD OF 'pyxlaw22.XmssMatchesReference'. -/
def xmssMatchesReferenceUptoCard : Claim7 := { stood := { row := xmssMatchesReferenceUptoRow, standIns := [], harness := (true, "2db7bc53e541b3d0845c160203a0261006fa24a09c311deb1a280e9e75890b7f"), looks := true }, kinds := [], alts := [], laidByText := true, laidKinds := [.data, .data, .data, .data, .handle, .sentinel, .sentinel, .pinned], laidTests := true, laidLooks := .later }
def XmssMatchesReferenceUptoCardSaid : Prop := Claim7.holds Tryz.pinned (.plain (OpenSpec.upto xmssMatchesReferenceSpec)) xmssMatchesReferenceUptoCard

/-- THE SECOND FORM's CARD OF 'pyxlaw22.XmssNumbers'. -/
def xmssNumbersUptoCard : Claim7 := { stood := { row := xmssNumbersUptoRow, standIns := [], harness := (true, "2db7bc53e541b3d0845c160203a0261006fa24a09c311deb1a280e9e75890b7f"), looks := true }, kinds := [], alts := [], laidByText := true, laidKinds := [.data, .data, .data, .data, .handle, .sentinel, .sentinel, .pinned], laidTests := true, laidLooks := .later }
def XmssNumbersUptoCardSaid : Prop := Claim7.holds Tryz.pinned (.plain (OpenSpec.upto xmssNumbersSpec)) xmssNumbersUptoCard

/-- THE SECOND FORM's CARD OF 'pyxlaw22.XmssSizes'. -/
def xmssSizesUptoCard : Claim7 := { stood := { row := xmssSizesUptoRow, standIns := [], harness := (true, "2db7bc53e541b3d0845c160203a0261006fa24a09c311deb1a280e9e75890b7f"), looks := true }, kinds := [], alts := [], laidByText := true, laidKinds := [.data, .data, .data, .data, .handle, .sentinel, .sentinel, .pinned], laidTests := true, laidLooks := .later }
def XmssSizesUptoCardSaid : Prop := Claim7.holds Tryz.pinned (.plain (OpenSpec.upto xmssSizesSpec)) xmssSizesUptoCard

/-- THE SECOND FORM's CARD OF 'pyxlaw22.XmssSplits'. -/
def xmssSplitsUptoCard : Claim7 := { stood := { row := xmssSplitsUptoRow, standIns := [], harness := (true, "2db7bc53e541b3d0845c160203a0261006fa24a09c311deb1a280e9e75890b7f"), looks := true }, kinds := [], alts := [], laidByText := true, laidKinds := [.data, .data, .data, .data, .handle, .sentinel, .sentinel, .pinned], laidTests := true, laidLooks := .later }
def XmssSplitsUptoCardSaid : Prop := Claim7.holds Tryz.pinned (.plain (OpenSpec.upto xmssSplitsSpec)) xmssSplitsUptoCard

/-- THE SECOND FORM's CARD OF 'pyxlaw22.XmssJoins'. -/
def xmssJoinsUptoCard : Claim7 := { stood := { row := xmssJoinsUptoRow, standIns := [], harness := (true, "2db7bc53e541b3d0845c160203a0261006fa24a09c311deb1a280e9e75890b7f"), looks := true }, kinds := [], alts := [], laidByText := true, laidKinds := [.data, .data, .data, .data, .handle, .sentinel, .sentinel, .pinned], laidTests := true, laidLooks := .later }
def XmssJoinsUptoCardSaid : Prop := Claim7.holds Tryz.pinned (.plain (OpenSpec.upto xmssJoinsSpec)) xmssJoinsUptoCard
end Rows
end Go.Proofs.YtgmnknhfeoleaaaGreatDoor
