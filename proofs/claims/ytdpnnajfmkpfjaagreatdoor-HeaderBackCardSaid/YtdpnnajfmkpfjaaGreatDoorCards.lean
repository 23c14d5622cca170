/-
  DERIVED. GIVEN WITH THE SEED: THE CARDS: each row of YtdpnnajfmkpfjaaGreatDoorRows.lean that lists a variable, with what it lists TIED to the program's text (the seventh form; the later family's looks); each row that meets fmt, with fmt's text TOLD by the authors' own Lean function (tested against real Go, not proved from fmt's source: count such statements apart). THE CARD IS WHAT COUNTS. Prove the row's statement (the work); the ties are given (YtdpnnajfmkpfjaaGreatDoorTie.lean); close each card by the builder's one call (the guide's Derived/Test/ToyasCard.lean, 'card_holds'). Laid BY PROGRAM, IN A SANDBOX (cutbox-door.mjs). By AI agents, Wed Nov 11 2026. No macro, syntax, notation, axiom, sorry.
-/
import Derived.Test.YtdpnnajfmkpfjaaGreatDoorRows
import GoSem.ClaimSeven
namespace Go.Proofs.YtdpnnajfmkpfjaaGreatDoor
namespace Rows

/-- THE TIED CARD OF 'oxbowlaw15.HeaderBack'. -/
def headerBackCard : Claim7 := { stood := { row := headerBackRow, standIns := [], harness := (true, "e91c4a042fdbc0fafb26afe98e49d8fb0172b27d401770e34b674dcc90570aa2"), looks := true }, kinds := [], alts := [], laidByText := true, laidKinds := [.data, .data, .data, .data, .sentinel, .sentinel, .pinned, .pinned], laidTests := true, laidLooks := .later }
def HeaderBackCardSaid : Prop := Claim7.holds Tryz.pinned (.plain (OpenSpec.ofChange headerBackSpec)) headerBackCard

/-- THE TIED CARD OF 'oxbowlaw15.HeaderSpaces'. -/
def headerSpacesCard : Claim7 := { stood := { row := headerSpacesRow, standIns := [], harness := (true, "e91c4a042fdbc0fafb26afe98e49d8fb0172b27d401770e34b674dcc90570aa2"), looks := true }, kinds := [], alts := [], laidByText := true, laidKinds := [.data, .data, .data, .data, .sentinel, .sentinel, .pinned, .pinned], laidTests := true, laidLooks := .later }
def HeaderSpacesCardSaid : Prop := Claim7.holds Tryz.pinned (.plain (OpenSpec.ofChange headerSpacesSpec)) headerSpacesCard

/-- THE SECOND FORM's CARD OF 'oxbowlaw15.HeaderBack'. -/
def headerBackUptoCard : Claim7 := { stood := { row := headerBackUptoRow, standIns := [], harness := (true, "e91c4a042fdbc0fafb26afe98e49d8fb0172b27d401770e34b674dcc90570aa2"), looks := true }, kinds := [], alts := [], laidByText := true, laidKinds := [.data, .data, .data, .data, .sentinel, .sentinel, .pinned, .pinned], laidTests := true, laidLooks := .later }
def HeaderBackUptoCardSaid : Prop := Claim7.holds Tryz.pinned (.plain (OpenSpec.upto headerBackSpec)) headerBackUptoCard

/-- THE SECOND FORM's CARD OF 'oxbowlaw15.HeaderSpaces'. -/
def headerSpacesUptoCard : Claim7 := { stood := { row := headerSpacesUptoRow, standIns := [], harness := (true, "e91c4a042fdbc0fafb26afe98e49d8fb0172b27d401770e34b674dcc90570aa2"), looks := true }, kinds := [], alts := [], laidByText := true, laidKinds := [.data, .data, .data, .data, .sentinel, .sentinel, .pinned, .pinned], laidTests := true, laidLooks := .later }
def HeaderSpacesUptoCardSaid : Prop := Claim7.holds Tryz.pinned (.plain (OpenSpec.upto headerSpacesSpec)) headerSpacesUptoCard
end Rows
end Go.Proofs.YtdpnnajfmkpfjaaGreatDoor
