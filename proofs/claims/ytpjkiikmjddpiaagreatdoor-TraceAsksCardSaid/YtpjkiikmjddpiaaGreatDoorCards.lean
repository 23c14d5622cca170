/-
  DERIVED. GIVEN WITH THE SEED: THE CARDS: each row of YtpjkiikmjddpiaaGreatDoorRows.lean that lists a variable, with what it lists TIED to the program's text (the seventh form; the later family's looks); each row that meets fmt, with fmt's text TOLD by the authors' own Lean function (tested against real Go, not proved from fmt's source: count such statements apart). THE CARD IS WHAT COUNTS. Prove the row's statement (the work); the ties are given (YtpjkiikmjddpiaaGreatDoorTie.lean); close each card by the builder's one call (the guide's Derived/Test/ToyasCard.lean, 'card_holds'). Laid BY PROGRAM, IN A SANDBOX (cutbox-door.mjs). By AI agents, Wed Nov 11 2026. No macro, syntax, notation, axiom, sorry.
-/
import Derived.Test.YtpjkiikmjddpiaaGreatDoorRows
import GoSem.ClaimSeven
namespace Go.Proofs.YtpjkiikmjddpiaaGreatDoor
namespace Rows

/-- THE TIED CARD OF 'oxbowlaw24.TraceAsks'. -/
def traceAsksCard : Claim7 := { stood := { row := traceAsksRow, standIns := [], harness := (true, "28bad916f6914d817d9e6a2b9bfb5d055b3e66891f2c5e44edc1ccff39e33c26"), looks := true }, kinds := [], alts := [], laidByText := true, laidKinds := [.data, .data, .data, .data, .sentinel, .sentinel, .pinned, .pinned], laidTests := true, laidLooks := .later }
def TraceAsksCardSaid : Prop := Claim7.holds Tryz.pinned (.plain (OpenSpec.ofChange traceAsksSpec)) traceAsksCard

/-- THE TIED CARD OF 'oxbowlaw24.TraceText'. -/
def traceTextCard : Claim7 := { stood := { row := traceTextRow, standIns := [], harness := (true, "28bad916f6914d817d9e6a2b9bfb5d055b3e66891f2c5e44edc1ccff39e33c26"), looks := true }, kinds := [], alts := [], laidByText := true, laidKinds := [.data, .data, .data, .data, .sentinel, .sentinel, .pinned, .pinned], laidTests := true, laidLooks := .later }
def TraceTextCardSaid : Prop := Claim7.holds Tryz.pinned (.plain (OpenSpec.ofChange traceTextSpec)) traceTextCard

/-- THE SECOND FORM's CARD OF 'oxbowlaw24.TraceAsks'. -/
def traceAsksUptoCard : Claim7 := { stood := { row := traceAsksUptoRow, standIns := [], harness := (true, "28bad916f6914d817d9e6a2b9bfb5d055b3e66891f2c5e44edc1ccff39e33c26"), looks := true }, kinds := [], alts := [], laidByText := true, laidKinds := [.data, .data, .data, .data, .sentinel, .sentinel, .pinned, .pinned], laidTests := true, laidLooks := .later }
def TraceAsksUptoCardSaid : Prop := Claim7.holds Tryz.pinned (.plain (OpenSpec.upto traceAsksSpec)) traceAsksUptoCard

/-- THE SECOND FORM's CARD OF 'oxbowlaw24.TraceText'. -/
def traceTextUptoCard : Claim7 := { stood := { row := traceTextUptoRow, standIns := [], harness := (true, "28bad916f6914d817d9e6a2b9bfb5d055b3e66891f2c5e44edc1ccff39e33c26"), looks := true }, kinds := [], alts := [], laidByText := true, laidKinds := [.data, .data, .data, .data, .sentinel, .sentinel, .pinned, .pinned], laidTests := true, laidLooks := .later }
def TraceTextUptoCardSaid : Prop := Claim7.holds Tryz.pinned (.plain (OpenSpec.upto traceTextSpec)) traceTextUptoCard
end Rows
end Go.Proofs.YtpjkiikmjddpiaaGreatDoor
