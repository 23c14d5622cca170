/-
  DERIVED. GIVEN WITH THE SEED: THE CARDS: each row of YtheajahjkmfeaaaGreatDoorRows.lean that lists a variable, with what it lists TIED to the program's text (the seventh form; the later family's looks); each row that meets fmt, with fmt's text TOLD by the authors' own Lean function (tested against real Go, not proved from fmt's source: count such statements apart). THE CARD IS WHAT COUNTS. Prove the row's statement (the work); the ties are given (YtheajahjkmfeaaaGreatDoorTie.lean); close each card by the builder's one call (the guide's Derived/Test/ToyasCard.lean, 'card_holds'). Laid BY PROGRAM, IN A SANDBOX (cutbox-door.mjs). By AI agents, Wed Nov 11 2026. No macro, syntax, notation, axiom, sorry.
-/
import Derived.Test.YtheajahjkmfeaaaGreatDoorRows
import GoSem.ClaimSeven
namespace Go.Proofs.YtheajahjkmfeaaaGreatDoor
namespace Rows

/-- THE TIED CARD OF 'oxbowlaw24.TraceText'. -/
def traceTextCard : Claim7 := { stood := { row := traceTextRow, standIns := [], harness := (true, "fc877418855449ce1ccce3f72cd3b10b8571172685e89e3850d2cbe23afdc10e"), looks := true }, kinds := [], alts := [], laidByText := true, laidKinds := [.data, .data, .data, .data, .sentinel, .sentinel, .pinned, .pinned], laidTests := true, laidLooks := .later }
def TraceTextCardSaid : Prop := Claim7.holds Tryz.pinned (.plain (OpenSpec.ofChange traceTextSpec)) traceTextCard

/-- THE SECOND FORM's CARD OF 'oxbowlaw24.TraceText'. -/
def traceTextUptoCard : Claim7 := { stood := { row := traceTextUptoRow, standIns := [], harness := (true, "fc877418855449ce1ccce3f72cd3b10b8571172685e89e3850d2cbe23afdc10e"), looks := true }, kinds := [], alts := [], laidByText := true, laidKinds := [.data, .data, .data, .data, .sentinel, .sentinel, .pinned, .pinned], laidTests := true, laidLooks := .later }
def TraceTextUptoCardSaid : Prop := Claim7.holds Tryz.pinned (.plain (OpenSpec.upto traceTextSpec)) traceTextUptoCard
end Rows
end Go.Proofs.YtheajahjkmfeaaaGreatDoor
