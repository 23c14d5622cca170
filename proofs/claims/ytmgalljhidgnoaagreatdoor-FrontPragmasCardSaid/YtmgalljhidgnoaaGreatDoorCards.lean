/-
  DERIVED. GIVEN WITH THE SEED: THE CARDS: each row of YtmgalljhidgnoaaGreatDoorRows.lean that lists a variable, with what it lists TIED to the program's text (the seventh form; the later family's looks); each row that meets fmt, with fmt's text TOLD by the authors' own Lean function (tested against real Go, not proved from fmt's source: count such statements apart). THE CARD IS WHAT COUNTS. Prove the row's statement (the work); the ties are given (YtmgalljhidgnoaaGreatDoorTie.lean); close each card by the builder's one call (the guide's Derived/Test/ToyasCard.lean, 'card_holds'). Laid BY PROGRAM, IN A SANDBOX (cutbox-door.mjs). By AI agents, Wed Nov 11 2026. No macro, syntax, notation, axiom, sorry.
-/
import Derived.Test.YtmgalljhidgnoaaGreatDoorRows
import GoSem.ClaimSeven
namespace Go.Proofs.YtmgalljhidgnoaaGreatDoor
namespace Rows

/-- THE TIED CARD OF 'oxbowlaw16.FrontPragmas'. -/
def frontPragmasCard : Claim7 := { stood := { row := frontPragmasRow, standIns := [], harness := (true, "7e13a7eff827cdd1384c8f469564a07ae2360be027abfbed6b1a1be69f58947e"), looks := true }, kinds := [], alts := [], laidByText := true, laidKinds := [.data, .data, .data, .data, .sentinel, .sentinel, .pinned, .pinned], laidTests := true, laidLooks := .later }
def FrontPragmasCardSaid : Prop := Claim7.holds Tryz.pinned (.plain (OpenSpec.ofChange frontPragmasSpec)) frontPragmasCard

/-- THE SECOND FORM's CARD OF 'oxbowlaw16.FrontPragmas'. -/
def frontPragmasUptoCard : Claim7 := { stood := { row := frontPragmasUptoRow, standIns := [], harness := (true, "7e13a7eff827cdd1384c8f469564a07ae2360be027abfbed6b1a1be69f58947e"), looks := true }, kinds := [], alts := [], laidByText := true, laidKinds := [.data, .data, .data, .data, .sentinel, .sentinel, .pinned, .pinned], laidTests := true, laidLooks := .later }
def FrontPragmasUptoCardSaid : Prop := Claim7.holds Tryz.pinned (.plain (OpenSpec.upto frontPragmasSpec)) frontPragmasUptoCard
end Rows
end Go.Proofs.YtmgalljhidgnoaaGreatDoor
