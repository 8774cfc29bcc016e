/-
  DERIVED. GIVEN WITH THE SEED: THE CARDS: each row of YtkdpcgmnkifbbaaGreatDoorRows.lean that lists a variable, with what it lists TIED to the program's text (the seventh form; the later family's looks); each row that meets fmt, with fmt's text TOLD by the authors' own Lean function (tested against real Go, not proved from fmt's source: count such statements apart). THE CARD IS WHAT COUNTS. Prove the row's statement (the work); the ties are given (YtkdpcgmnkifbbaaGreatDoorTie.lean); close each card by the builder's one call (the guide's Derived/Test/ToyasCard.lean, 'card_holds'). Laid BY PROGRAM, IN A SANDBOX (cutbox-door.mjs). By AI agents, Wed Nov 11 2026. No macro, syntax, notation, axiom, sorry.
-/
import Derived.Test.YtkdpcgmnkifbbaaGreatDoorRows
import GoSem.ClaimSeven
namespace Go.Proofs.YtkdpcgmnkifbbaaGreatDoor
namespace Rows

/-- THE TIED CARD OF 'metrolablaw26.DistPlaces'. -/
def distPlacesCard : Claim7 := { stood := { row := distPlacesRow, standIns := [], harness := (true, "664ebff915a20f6af7bb3b1cde624473f58714984d459454ccf4433fc2ffd206"), looks := true }, kinds := [], alts := [], laidByText := true, laidKinds := [.data, .data, .data, .data, .sentinel, .sentinel, .pinned], laidTests := true, laidLooks := .later }
def DistPlacesCardSaid : Prop := Claim7.holds Tryz.pinned (.plain (OpenSpec.ofChange distPlacesSpec)) distPlacesCard

/-- THE TIED CARD OF 'metrolablaw26.DistMeasures'. -/
def distMeasuresCard : Claim7 := { stood := { row := distMeasuresRow, standIns := [], harness := (true, "664ebff915a20f6af7bb3b1cde624473f58714984d459454ccf4433fc2ffd206"), looks := true }, kinds := [], alts := [], laidByText := true, laidKinds := [.data, .data, .data, .data, .sentinel, .sentinel, .pinned], laidTests := true, laidLooks := .later }
def DistMeasuresCardSaid : Prop := Claim7.holds Tryz.pinned (.plain (OpenSpec.ofChange distMeasuresSpec)) distMeasuresCard

/-- THE TIED CARD OF 'metrolablaw26.DistMakes'. -/
def distMakesCard : Claim7 := { stood := { row := distMakesRow, standIns := [], harness := (true, "664ebff915a20f6af7bb3b1cde624473f58714984d459454ccf4433fc2ffd206"), looks := true }, kinds := [], alts := [], laidByText := true, laidKinds := [.data, .data, .data, .data, .sentinel, .sentinel, .pinned], laidTests := true, laidLooks := .later }
def DistMakesCardSaid : Prop := Claim7.holds Tryz.pinned (.plain (OpenSpec.ofChange distMakesSpec)) distMakesCard

/-- THE TIED CARD OF 'metrolablaw26.DistChanges'. -/
def distChangesCard : Claim7 := { stood := { row := distChangesRow, standIns := [], harness := (true, "664ebff915a20f6af7bb3b1cde624473f58714984d459454ccf4433fc2ffd206"), looks := true }, kinds := [], alts := [], laidByText := true, laidKinds := [.data, .data, .data, .data, .sentinel, .sentinel, .pinned], laidTests := true, laidLooks := .later }
def DistChangesCardSaid : Prop := Claim7.holds Tryz.pinned (.plain (OpenSpec.ofChange distChangesSpec)) distChangesCard

/-- THE SECOND FORM's CARD OF 'metrolablaw26.DistPlaces'. -/
def distPlacesUptoCard : Claim7 := { stood := { row := distPlacesUptoRow, standIns := [], harness := (true, "664ebff915a20f6af7bb3b1cde624473f58714984d459454ccf4433fc2ffd206"), looks := true }, kinds := [], alts := [], laidByText := true, laidKinds := [.data, .data, .data, .data, .sentinel, .sentinel, .pinned], laidTests := true, laidLooks := .later }
def DistPlacesUptoCardSaid : Prop := Claim7.holds Tryz.pinned (.plain (OpenSpec.upto distPlacesSpec)) distPlacesUptoCard

/-- THE SECOND FORM's CARD OF 'metrolablaw26.DistMeasures'. -/
def distMeasuresUptoCard : Claim7 := { stood := { row := distMeasuresUptoRow, standIns := [], harness := (true, "664ebff915a20f6af7bb3b1cde624473f58714984d459454ccf4433fc2ffd206"), looks := true }, kinds := [], alts := [], laidByText := true, laidKinds := [.data, .data, .data, .data, .sentinel, .sentinel, .pinned], laidTests := true, laidLooks := .later }
def DistMeasuresUptoCardSaid : Prop := Claim7.holds Tryz.pinned (.plain (OpenSpec.upto distMeasuresSpec)) distMeasuresUptoCard

/-- THE SECOND FORM's CARD OF 'metrolablaw26.DistMakes'. -/
def distMakesUptoCard : Claim7 := { stood := { row := distMakesUptoRow, standIns := [], harness := (true, "664ebff915a20f6af7bb3b1cde624473f58714984d459454ccf4433fc2ffd206"), looks := true }, kinds := [], alts := [], laidByText := true, laidKinds := [.data, .data, .data, .data, .sentinel, .sentinel, .pinned], laidTests := true, laidLooks := .later }
def DistMakesUptoCardSaid : Prop := Claim7.holds Tryz.pinned (.plain (OpenSpec.upto distMakesSpec)) distMakesUptoCard

/-- THE SECOND FORM's CARD OF 'metrolablaw26.DistChanges'. -/
def distChangesUptoCard : Claim7 := { stood := { row := distChangesUptoRow, standIns := [], harness := (true, "664ebff915a20f6af7bb3b1cde624473f58714984d459454ccf4433fc2ffd206"), looks := true }, kinds := [], alts := [], laidByText := true, laidKinds := [.data, .data, .data, .data, .sentinel, .sentinel, .pinned], laidTests := true, laidLooks := .later }
def DistChangesUptoCardSaid : Prop := Claim7.holds Tryz.pinned (.plain (OpenSpec.upto distChangesSpec)) distChangesUptoCard
end Rows
end Go.Proofs.YtkdpcgmnkifbbaaGreatDoor
