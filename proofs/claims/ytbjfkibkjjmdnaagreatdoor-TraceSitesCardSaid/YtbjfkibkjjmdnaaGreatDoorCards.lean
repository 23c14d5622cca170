/-
  DERIVED. GIVEN WITH THE SEED: THE CARDS: each row of YtbjfkibkjjmdnaaGreatDoorRows.lean that lists a variable, with what it lists TIED to the program's text (the seventh form; the later family's looks); each row that meets fmt, with fmt's text TOLD by the authors' own Lean function (tested against real Go, not proved from fmt's source: count such statements apart). THE CARD IS WHAT COUNTS. Prove the row's statement (the work); the ties are given (YtbjfkibkjjmdnaaGreatDoorTie.lean); close each card by the builder's one call (the guide's Derived/Test/ToyasCard.lean, 'card_holds'). Laid BY PROGRAM, IN A SANDBOX (cutbox-door.mjs). By AI agents, Wed Nov 11 2026. No macro, syntax, notation, axiom, sorry.
-/
import Derived.Test.YtbjfkibkjjmdnaaGreatDoorRows
import GoSem.ClaimSeven
namespace Go.Proofs.YtbjfkibkjjmdnaaGreatDoor
namespace Rows

/-- THE TIED CARD OF 'oxbowlaw24.TraceSites'. -/
def traceSitesCard : Claim7 := { stood := { row := traceSitesRow, standIns := [], harness := (true, "42132176359eb312c9846b0473b023c2c07f0d104e0109a4f2beb4385236f400"), looks := true }, kinds := [], alts := [], laidByText := true, laidKinds := [.data, .data, .data, .data, .sentinel, .sentinel, .pinned, .pinned], laidTests := true, laidLooks := .later }
def TraceSitesCardSaid : Prop := Claim7.holds Tryz.pinned (.plain (OpenSpec.ofChange traceSitesSpec)) traceSitesCard

/-- THE TIED CARD OF 'oxbowlaw16.FrontSelf'. -/
def frontSelfCard : Claim7 := { stood := { row := frontSelfRow, standIns := [], harness := (true, "42132176359eb312c9846b0473b023c2c07f0d104e0109a4f2beb4385236f400"), looks := true }, kinds := [], alts := [], laidByText := true, laidKinds := [.data, .data, .data, .data, .sentinel, .sentinel, .pinned, .pinned], laidTests := true, laidLooks := .later }
def FrontSelfCardSaid : Prop := Claim7.holds Tryz.pinned (.plain (OpenSpec.ofChange frontSelfSpec)) frontSelfCard

/-- THE TIED CARD OF 'oxbowlaw24.TraceAsks'. -/
def traceAsksCard : Claim7 := { stood := { row := traceAsksRow, standIns := [], harness := (true, "42132176359eb312c9846b0473b023c2c07f0d104e0109a4f2beb4385236f400"), looks := true }, kinds := [], alts := [], laidByText := true, laidKinds := [.data, .data, .data, .data, .sentinel, .sentinel, .pinned, .pinned], laidTests := true, laidLooks := .later }
def TraceAsksCardSaid : Prop := Claim7.holds Tryz.pinned (.plain (OpenSpec.ofChange traceAsksSpec)) traceAsksCard

/-- THE SECOND FORM's CARD OF 'oxbowlaw24.TraceSites'. -/
def traceSitesUptoCard : Claim7 := { stood := { row := traceSitesUptoRow, standIns := [], harness := (true, "42132176359eb312c9846b0473b023c2c07f0d104e0109a4f2beb4385236f400"), looks := true }, kinds := [], alts := [], laidByText := true, laidKinds := [.data, .data, .data, .data, .sentinel, .sentinel, .pinned, .pinned], laidTests := true, laidLooks := .later }
def TraceSitesUptoCardSaid : Prop := Claim7.holds Tryz.pinned (.plain (OpenSpec.upto traceSitesSpec)) traceSitesUptoCard

/-- THE SECOND FORM's CARD OF 'oxbowlaw16.FrontSelf'. -/
def frontSelfUptoCard : Claim7 := { stood := { row := frontSelfUptoRow, standIns := [], harness := (true, "42132176359eb312c9846b0473b023c2c07f0d104e0109a4f2beb4385236f400"), looks := true }, kinds := [], alts := [], laidByText := true, laidKinds := [.data, .data, .data, .data, .sentinel, .sentinel, .pinned, .pinned], laidTests := true, laidLooks := .later }
def FrontSelfUptoCardSaid : Prop := Claim7.holds Tryz.pinned (.plain (OpenSpec.upto frontSelfSpec)) frontSelfUptoCard

/-- THE SECOND FORM's CARD OF 'oxbowlaw24.TraceAsks'. -/
def traceAsksUptoCard : Claim7 := { stood := { row := traceAsksUptoRow, standIns := [], harness := (true, "42132176359eb312c9846b0473b023c2c07f0d104e0109a4f2beb4385236f400"), looks := true }, kinds := [], alts := [], laidByText := true, laidKinds := [.data, .data, .data, .data, .sentinel, .sentinel, .pinned, .pinned], laidTests := true, laidLooks := .later }
def TraceAsksUptoCardSaid : Prop := Claim7.holds Tryz.pinned (.plain (OpenSpec.upto traceAsksSpec)) traceAsksUptoCard
end Rows
end Go.Proofs.YtbjfkibkjjmdnaaGreatDoor
