/-
  DERIVED. GIVEN WITH THE SEED: THE CARDS: each row of YtpnfpdmkladmpaaGreatDoorRows.lean that lists a variable, with what it lists TIED to the program's text (the seventh form; the later family's looks); each row that meets fmt, with fmt's text TOLD by the authors' own Lean function (tested against real Go, not proved from fmt's source: count such statements apart). THE CARD IS WHAT COUNTS. Prove the row's statement (the work); the ties are given (YtpnfpdmkladmpaaGreatDoorTie.lean); close each card by the builder's one call (the guide's Derived/Test/ToyasCard.lean, 'card_holds'). Laid BY PROGRAM, IN A SANDBOX (cutbox-door.mjs). By AI agents, Wed Nov 11 2026. No macro, syntax, notation, axiom, sorry.
-/
import Derived.Test.YtpnfpdmkladmpaaGreatDoorRows
import GoSem.ClaimSeven
namespace Go.Proofs.YtpnfpdmkladmpaaGreatDoor
namespace Rows

/-- THE TIED CARD OF 'oxbowlaw16.FrontErrors'. -/
def frontErrorsCard : Claim7 := { stood := { row := frontErrorsRow, standIns := [], harness := (true, "f44942976687981aa042d7cba9a8e150217d8e9153a44963ba3d0d5ecd1b63b7"), looks := true }, kinds := [], alts := [], laidByText := true, laidKinds := [.data, .data, .data, .data, .sentinel, .sentinel, .pinned, .pinned], laidTests := true, laidLooks := .later }
def FrontErrorsCardSaid : Prop := Claim7.holds Tryz.pinned (.plain (OpenSpec.ofChange frontErrorsSpec)) frontErrorsCard

/-- THE TIED CARD OF 'oxbowlaw16.FrontRegions'. -/
def frontRegionsCard : Claim7 := { stood := { row := frontRegionsRow, standIns := [], harness := (true, "f44942976687981aa042d7cba9a8e150217d8e9153a44963ba3d0d5ecd1b63b7"), looks := true }, kinds := [], alts := [], laidByText := true, laidKinds := [.data, .data, .data, .data, .sentinel, .sentinel, .pinned, .pinned], laidTests := true, laidLooks := .later }
def FrontRegionsCardSaid : Prop := Claim7.holds Tryz.pinned (.plain (OpenSpec.ofChange frontRegionsSpec)) frontRegionsCard

/-- THE TIED CARD OF 'oxbowlaw24.TraceSites'. -/
def traceSitesCard : Claim7 := { stood := { row := traceSitesRow, standIns := [], harness := (true, "f44942976687981aa042d7cba9a8e150217d8e9153a44963ba3d0d5ecd1b63b7"), looks := true }, kinds := [], alts := [], laidByText := true, laidKinds := [.data, .data, .data, .data, .sentinel, .sentinel, .pinned, .pinned], laidTests := true, laidLooks := .later }
def TraceSitesCardSaid : Prop := Claim7.holds Tryz.pinned (.plain (OpenSpec.ofChange traceSitesSpec)) traceSitesCard

/-- THE TIED CARD OF 'oxbowlaw24.TraceMade'. -/
def traceMadeCard : Claim7 := { stood := { row := traceMadeRow, standIns := [], harness := (true, "f44942976687981aa042d7cba9a8e150217d8e9153a44963ba3d0d5ecd1b63b7"), looks := true }, kinds := [], alts := [], laidByText := true, laidKinds := [.data, .data, .data, .data, .sentinel, .sentinel, .pinned, .pinned], laidTests := true, laidLooks := .later }
def TraceMadeCardSaid : Prop := Claim7.holds Tryz.pinned (.plain (OpenSpec.ofChange traceMadeSpec)) traceMadeCard

/-- THE SECOND FORM's CARD OF 'oxbowlaw16.FrontErrors'. -/
def frontErrorsUptoCard : Claim7 := { stood := { row := frontErrorsUptoRow, standIns := [], harness := (true, "f44942976687981aa042d7cba9a8e150217d8e9153a44963ba3d0d5ecd1b63b7"), looks := true }, kinds := [], alts := [], laidByText := true, laidKinds := [.data, .data, .data, .data, .sentinel, .sentinel, .pinned, .pinned], laidTests := true, laidLooks := .later }
def FrontErrorsUptoCardSaid : Prop := Claim7.holds Tryz.pinned (.plain (OpenSpec.upto frontErrorsSpec)) frontErrorsUptoCard

/-- THE SECOND FORM's CARD OF 'oxbowlaw16.FrontRegions'. -/
def frontRegionsUptoCard : Claim7 := { stood := { row := frontRegionsUptoRow, standIns := [], harness := (true, "f44942976687981aa042d7cba9a8e150217d8e9153a44963ba3d0d5ecd1b63b7"), looks := true }, kinds := [], alts := [], laidByText := true, laidKinds := [.data, .data, .data, .data, .sentinel, .sentinel, .pinned, .pinned], laidTests := true, laidLooks := .later }
def FrontRegionsUptoCardSaid : Prop := Claim7.holds Tryz.pinned (.plain (OpenSpec.upto frontRegionsSpec)) frontRegionsUptoCard

/-- THE SECOND FORM's CARD OF 'oxbowlaw24.TraceSites'. -/
def traceSitesUptoCard : Claim7 := { stood := { row := traceSitesUptoRow, standIns := [], harness := (true, "f44942976687981aa042d7cba9a8e150217d8e9153a44963ba3d0d5ecd1b63b7"), looks := true }, kinds := [], alts := [], laidByText := true, laidKinds := [.data, .data, .data, .data, .sentinel, .sentinel, .pinned, .pinned], laidTests := true, laidLooks := .later }
def TraceSitesUptoCardSaid : Prop := Claim7.holds Tryz.pinned (.plain (OpenSpec.upto traceSitesSpec)) traceSitesUptoCard

/-- THE SECOND FORM's CARD OF 'oxbowlaw24.TraceMade'. -/
def traceMadeUptoCard : Claim7 := { stood := { row := traceMadeUptoRow, standIns := [], harness := (true, "f44942976687981aa042d7cba9a8e150217d8e9153a44963ba3d0d5ecd1b63b7"), looks := true }, kinds := [], alts := [], laidByText := true, laidKinds := [.data, .data, .data, .data, .sentinel, .sentinel, .pinned, .pinned], laidTests := true, laidLooks := .later }
def TraceMadeUptoCardSaid : Prop := Claim7.holds Tryz.pinned (.plain (OpenSpec.upto traceMadeSpec)) traceMadeUptoCard
end Rows
end Go.Proofs.YtpnfpdmkladmpaaGreatDoor
