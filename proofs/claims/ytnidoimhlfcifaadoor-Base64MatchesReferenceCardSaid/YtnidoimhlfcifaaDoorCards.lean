/-
  DERIVED. GIVEN WITH THE SEED: THE CARDS: each row of YtnidoimhlfcifaaDoorRows.lean that lists a variable, with what it lists TIED to the program's text (the seventh form; the later family's looks); each row that meets fmt, with fmt's text TOLD by the authors' own Lean function (tested against real Go, not proved from fmt's source: count such statements apart). THE CARD IS WHAT COUNTS. Prove the row's statement (the work); the ties are given (YtnidoimhlfcifaaDoorTie.lean); close each card by the builder's one call (the guide's Derived/Test/ToyasCard.lean, 'card_holds'). Laid BY PROGRAM, IN A SANDBOX (cutbox-door.mjs). By AI agents, Wed Nov 11 2026. No macro, syntax, notation, axiom, sorry.
-/
import Derived.Test.YtnidoimhlfcifaaDoorRows
import GoSem.ClaimSeven
namespace Go.Proofs.YtnidoimhlfcifaaDoor
namespace Rows

/-- THE TIED CARD OF 'pyxlaw04.Base64MatchesReference'. -/
def base64MatchesReferenceCard : Claim7 := { stood := { row := base64MatchesReferenceRow, standIns := [], harness := (true, "1a940c741ec7d47953dbb9f280583f5a1840595fceb1020c3086bb20332bdaf4"), looks := true }, kinds := [], alts := [], laidByText := true, laidKinds := [.data, .pinned], laidTests := true, laidLooks := .later }
def Base64MatchesReferenceCardSaid : Prop := Claim7.holds Tryd.pinned (.plain (OpenSpec.ofChange base64MatchesReferenceSpec)) base64MatchesReferenceCard

/-- THE TIED CARD OF 'pyxlaw04.Base64Encodes'. -/
def base64EncodesCard : Claim7 := { stood := { row := base64EncodesRow, standIns := [], harness := (true, "1a940c741ec7d47953dbb9f280583f5a1840595fceb1020c3086bb20332bdaf4"), looks := true }, kinds := [], alts := [], laidByText := true, laidKinds := [.data, .pinned], laidTests := true, laidLooks := .later }
def Base64EncodesCardSaid : Prop := Claim7.holds Tryd.pinned (.plain (OpenSpec.ofChange base64EncodesSpec)) base64EncodesCard

/-- THE TIED CARD OF 'pyxlaw04.Base64Digits'. -/
def base64DigitsCard : Claim7 := { stood := { row := base64DigitsRow, standIns := [], harness := (true, "1a940c741ec7d47953dbb9f280583f5a1840595fceb1020c3086bb20332bdaf4"), looks := true }, kinds := [], alts := [], laidByText := true, laidKinds := [.data, .pinned], laidTests := true, laidLooks := .later }
def Base64DigitsCardSaid : Prop := Claim7.holds Tryd.pinned (.plain (OpenSpec.ofChange base64DigitsSpec)) base64DigitsCard

/-- THE TIED CARD OF 'pyxlaw04.Base64Joins'. -/
def base64JoinsCard : Claim7 := { stood := { row := base64JoinsRow, standIns := [], harness := (true, "1a940c741ec7d47953dbb9f280583f5a1840595fceb1020c3086bb20332bdaf4"), looks := true }, kinds := [], alts := [], laidByText := true, laidKinds := [.data, .pinned], laidTests := true, laidLooks := .later }
def Base64JoinsCardSaid : Prop := Claim7.holds Tryd.pinned (.plain (OpenSpec.ofChange base64JoinsSpec)) base64JoinsCard

/-- THE TIED CARD OF 'pyxlaw04.Base64Changes'. -/
def base64ChangesCard : Claim7 := { stood := { row := base64ChangesRow, standIns := [], harness := (true, "1a940c741ec7d47953dbb9f280583f5a1840595fceb1020c3086bb20332bdaf4"), looks := true }, kinds := [], alts := [], laidByText := true, laidKinds := [.data, .pinned], laidTests := true, laidLooks := .later }
def Base64ChangesCardSaid : Prop := Claim7.holds Tryd.pinned (.plain (OpenSpec.ofChange base64ChangesSpec)) base64ChangesCard

/-- THE TIED CARD OF 'pyxlaw02.FaultWraps'. -/
def faultWrapsCard : Claim7 := { stood := { row := faultWrapsRow, standIns := [], harness := (true, "1a940c741ec7d47953dbb9f280583f5a1840595fceb1020c3086bb20332bdaf4"), looks := true }, kinds := [], alts := [], laidByText := true, laidKinds := [.handle, .data], laidTests := true, laidLooks := .later }
def FaultWrapsCardSaid : Prop := Claim7.holds Tryd.pinned (.plain (OpenSpec.ofChange faultWrapsSpec)) faultWrapsCard

/-- THE SECOND FORM's CARD OF 'pyxlaw04.Base64MatchesReference'. -/
def base64MatchesReferenceUptoCard : Claim7 := { stood := { row := base64MatchesReferenceUptoRow, standIns := [], harness := (true, "1a940c741ec7d47953dbb9f280583f5a1840595fceb1020c3086bb20332bdaf4"), looks := true }, kinds := [], alts := [], laidByText := true, laidKinds := [.data, .pinned], laidTests := true, laidLooks := .later }
def Base64MatchesReferenceUptoCardSaid : Prop := Claim7.holds Tryd.pinned (.plain (OpenSpec.upto base64MatchesReferenceSpec)) base64MatchesReferenceUptoCard

/-- THE SECOND FORM's CARD OF 'pyxlaw04.Base64Encodes'. -/
def base64EncodesUptoCard : Claim7 := { stood := { row := base64EncodesUptoRow, standIns := [], harness := (true, "1a940c741ec7d47953dbb9f280583f5a1840595fceb1020c3086bb20332bdaf4"), looks := true }, kinds := [], alts := [], laidByText := true, laidKinds := [.data, .pinned], laidTests := true, laidLooks := .later }
def Base64EncodesUptoCardSaid : Prop := Claim7.holds Tryd.pinned (.plain (OpenSpec.upto base64EncodesSpec)) base64EncodesUptoCard

/-- THE SECOND FORM's CARD OF 'pyxlaw04.Base64Digits'. -/
def base64DigitsUptoCard : Claim7 := { stood := { row := base64DigitsUptoRow, standIns := [], harness := (true, "1a940c741ec7d47953dbb9f280583f5a1840595fceb1020c3086bb20332bdaf4"), looks := true }, kinds := [], alts := [], laidByText := true, laidKinds := [.data, .pinned], laidTests := true, laidLooks := .later }
def Base64DigitsUptoCardSaid : Prop := Claim7.holds Tryd.pinned (.plain (OpenSpec.upto base64DigitsSpec)) base64DigitsUptoCard

/-- THE SECOND FORM's CARD OF 'pyxlaw04.Base64Joins'. -/
def base64JoinsUptoCard : Claim7 := { stood := { row := base64JoinsUptoRow, standIns := [], harness := (true, "1a940c741ec7d47953dbb9f280583f5a1840595fceb1020c3086bb20332bdaf4"), looks := true }, kinds := [], alts := [], laidByText := true, laidKinds := [.data, .pinned], laidTests := true, laidLooks := .later }
def Base64JoinsUptoCardSaid : Prop := Claim7.holds Tryd.pinned (.plain (OpenSpec.upto base64JoinsSpec)) base64JoinsUptoCard

/-- THE SECOND FORM's CARD OF 'pyxlaw04.Base64Changes'. -/
def base64ChangesUptoCard : Claim7 := { stood := { row := base64ChangesUptoRow, standIns := [], harness := (true, "1a940c741ec7d47953dbb9f280583f5a1840595fceb1020c3086bb20332bdaf4"), looks := true }, kinds := [], alts := [], laidByText := true, laidKinds := [.data, .pinned], laidTests := true, laidLooks := .later }
def Base64ChangesUptoCardSaid : Prop := Claim7.holds Tryd.pinned (.plain (OpenSpec.upto base64ChangesSpec)) base64ChangesUptoCard

/-- THE SECOND FORM's CARD OF 'pyxlaw02.FaultWraps'. -/
def faultWrapsUptoCard : Claim7 := { stood := { row := faultWrapsUptoRow, standIns := [], harness := (true, "1a940c741ec7d47953dbb9f280583f5a1840595fceb1020c3086bb20332bdaf4"), looks := true }, kinds := [], alts := [], laidByText := true, laidKinds := [.handle, .data], laidTests := true, laidLooks := .later }
def FaultWrapsUptoCardSaid : Prop := Claim7.holds Tryd.pinned (.plain (OpenSpec.upto faultWrapsSpec)) faultWrapsUptoCard
end Rows
end Go.Proofs.YtnidoimhlfcifaaDoor
