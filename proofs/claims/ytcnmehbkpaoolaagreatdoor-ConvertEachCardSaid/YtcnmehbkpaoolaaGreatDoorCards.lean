/-
  DERIVED. GIVEN WITH THE SEED: THE CARDS: each row of YtcnmehbkpaoolaaGreatDoorRows.lean that lists a variable, with what it lists TIED to the program's text (the seventh form; the later family's looks); each row that meets fmt, with fmt's text TOLD by the authors' own Lean function (tested against real Go, not proved from fmt's source: count such statements apart). THE CARD IS WHAT COUNTS. Prove the row's statement (the work); the ties are given (YtcnmehbkpaoolaaGreatDoorTie.lean); close each card by the builder's one call (the guide's Derived/Test/ToyasCard.lean, 'card_holds'). Laid BY PROGRAM, IN A SANDBOX (cutbox-door.mjs). By AI agents, Wed Nov 11 2026. No macro, syntax, notation, axiom, sorry.
-/
import Derived.Test.YtcnmehbkpaoolaaGreatDoorRows
import GoSem.ClaimSeven
namespace Go.Proofs.YtcnmehbkpaoolaaGreatDoor
namespace Rows

/-- THE TIED CARD OF 'oxbowlaw17.ConvertAll'. -/
def convertAllCard : Claim7 := { stood := { row := convertAllRow, standIns := [], harness := (true, "5157361bb7081c3e38638691101a97ca0e18c869a36b86cebd350c8c40e65bb3"), looks := true }, kinds := [], alts := [], laidByText := true, laidKinds := [.data, .data, .data, .data, .sentinel, .sentinel, .listed, .data, .pinned, .pinned], laidTests := true, laidLooks := .later }
def ConvertAllCardSaid : Prop := Claim7.holds Tryz.pinned (.plain (OpenSpec.ofChange convertAllSpec)) convertAllCard

/-- THE TIED CARD OF 'oxbowlaw17.ConvertEach'. -/
def convertEachCard : Claim7 := { stood := { row := convertEachRow, standIns := [], harness := (true, "5157361bb7081c3e38638691101a97ca0e18c869a36b86cebd350c8c40e65bb3"), looks := true }, kinds := [], alts := [], laidByText := true, laidKinds := [.data, .data, .data, .data, .sentinel, .sentinel, .listed, .data, .pinned, .pinned], laidTests := true, laidLooks := .later }
def ConvertEachCardSaid : Prop := Claim7.holds Tryz.pinned (.plain (OpenSpec.ofChange convertEachSpec)) convertEachCard

/-- THE TIED CARD OF 'oxbowlaw17.ConvertStrings'. -/
def convertStringsCard : Claim7 := { stood := { row := convertStringsRow, standIns := [], harness := (true, "5157361bb7081c3e38638691101a97ca0e18c869a36b86cebd350c8c40e65bb3"), looks := true }, kinds := [], alts := [], laidByText := true, laidKinds := [.data, .data, .data, .data, .sentinel, .sentinel, .listed, .data, .pinned, .pinned], laidTests := true, laidLooks := .later }
def ConvertStringsCardSaid : Prop := Claim7.holds Tryz.pinned (.plain (OpenSpec.ofChange convertStringsSpec)) convertStringsCard

/-- THE TIED CARD OF 'oxbowlaw17.ConvertWords'. -/
def convertWordsCard : Claim7 := { stood := { row := convertWordsRow, standIns := [], harness := (true, "5157361bb7081c3e38638691101a97ca0e18c869a36b86cebd350c8c40e65bb3"), looks := true }, kinds := [], alts := [], laidByText := true, laidKinds := [.data, .data, .data, .data, .sentinel, .sentinel, .listed, .data, .pinned, .pinned], laidTests := true, laidLooks := .later }
def ConvertWordsCardSaid : Prop := Claim7.holds Tryz.pinned (.plain (OpenSpec.ofChange convertWordsSpec)) convertWordsCard

/-- THE TIED CARD OF 'oxbowlaw17.ConvertNumbers'. -/
def convertNumbersCard : Claim7 := { stood := { row := convertNumbersRow, standIns := [], harness := (true, "5157361bb7081c3e38638691101a97ca0e18c869a36b86cebd350c8c40e65bb3"), looks := true }, kinds := [], alts := [], laidByText := true, laidKinds := [.data, .data, .data, .data, .sentinel, .sentinel, .listed, .data, .pinned, .pinned], laidTests := true, laidLooks := .later }
def ConvertNumbersCardSaid : Prop := Claim7.holds Tryz.pinned (.plain (OpenSpec.ofChange convertNumbersSpec)) convertNumbersCard

/-- THE TIED CARD OF 'oxbowlaw14.PpifEval'. -/
def ppifEvalCard : Claim7 := { stood := { row := ppifEvalRow, standIns := [], harness := (true, "5157361bb7081c3e38638691101a97ca0e18c869a36b86cebd350c8c40e65bb3"), looks := true }, kinds := [], alts := [], laidByText := true, laidKinds := [.data, .data, .data, .data, .sentinel, .sentinel, .pinned, .pinned], laidTests := true, laidLooks := .later }
def PpifEvalCardSaid : Prop := Claim7.holds Tryz.pinned (.plain (OpenSpec.ofChange ppifEvalSpec)) ppifEvalCard

/-- THE TIED CARD OF 'oxbowlaw14.PpifSums'. -/
def ppifSumsCard : Claim7 := { stood := { row := ppifSumsRow, standIns := [], harness := (true, "5157361bb7081c3e38638691101a97ca0e18c869a36b86cebd350c8c40e65bb3"), looks := true }, kinds := [], alts := [], laidByText := true, laidKinds := [.data, .data, .data, .data, .sentinel, .sentinel, .pinned, .pinned], laidTests := true, laidLooks := .later }
def PpifSumsCardSaid : Prop := Claim7.holds Tryz.pinned (.plain (OpenSpec.ofChange ppifSumsSpec)) ppifSumsCard

/-- THE TIED CARD OF 'oxbowlaw14.PpifSkips'. -/
def ppifSkipsCard : Claim7 := { stood := { row := ppifSkipsRow, standIns := [], harness := (true, "5157361bb7081c3e38638691101a97ca0e18c869a36b86cebd350c8c40e65bb3"), looks := true }, kinds := [], alts := [], laidByText := true, laidKinds := [.data, .data, .data, .data, .sentinel, .sentinel, .pinned, .pinned], laidTests := true, laidLooks := .later }
def PpifSkipsCardSaid : Prop := Claim7.holds Tryz.pinned (.plain (OpenSpec.ofChange ppifSkipsSpec)) ppifSkipsCard

/-- THE TIED CARD OF 'oxbowlaw14.PpifBinds'. -/
def ppifBindsCard : Claim7 := { stood := { row := ppifBindsRow, standIns := [], harness := (true, "5157361bb7081c3e38638691101a97ca0e18c869a36b86cebd350c8c40e65bb3"), looks := true }, kinds := [], alts := [], laidByText := true, laidKinds := [.data, .data, .data, .data, .sentinel, .sentinel, .pinned, .pinned], laidTests := true, laidLooks := .later }
def PpifBindsCardSaid : Prop := Claim7.holds Tryz.pinned (.plain (OpenSpec.ofChange ppifBindsSpec)) ppifBindsCard

/-- THE TIED CARD OF 'oxbowlaw14.PpifAsks'. -/
def ppifAsksCard : Claim7 := { stood := { row := ppifAsksRow, standIns := [], harness := (true, "5157361bb7081c3e38638691101a97ca0e18c869a36b86cebd350c8c40e65bb3"), looks := true }, kinds := [], alts := [], laidByText := true, laidKinds := [.data, .data, .data, .data, .sentinel, .sentinel, .pinned, .pinned], laidTests := true, laidLooks := .later }
def PpifAsksCardSaid : Prop := Claim7.holds Tryz.pinned (.plain (OpenSpec.ofChange ppifAsksSpec)) ppifAsksCard

/-- THE TIED CARD OF 'oxbowlaw14.PpifShifts'. -/
def ppifShiftsCard : Claim7 := { stood := { row := ppifShiftsRow, standIns := [], harness := (true, "5157361bb7081c3e38638691101a97ca0e18c869a36b86cebd350c8c40e65bb3"), looks := true }, kinds := [], alts := [], laidByText := true, laidKinds := [.data, .data, .data, .data, .sentinel, .sentinel, .pinned, .pinned], laidTests := true, laidLooks := .later }
def PpifShiftsCardSaid : Prop := Claim7.holds Tryz.pinned (.plain (OpenSpec.ofChange ppifShiftsSpec)) ppifShiftsCard

/-- THE SECOND FORM's CARD OF 'oxbowlaw17.ConvertAll'. -/
def convertAllUptoCard : Claim7 := { stood := { row := convertAllUptoRow, standIns := [], harness := (true, "5157361bb7081c3e38638691101a97ca0e18c869a36b86cebd350c8c40e65bb3"), looks := true }, kinds := [], alts := [], laidByText := true, laidKinds := [.data, .data, .data, .data, .sentinel, .sentinel, .listed, .data, .pinned, .pinned], laidTests := true, laidLooks := .later }
def ConvertAllUptoCardSaid : Prop := Claim7.holds Tryz.pinned (.plain (OpenSpec.upto convertAllSpec)) convertAllUptoCard

/-- THE SECOND FORM's CARD OF 'oxbowlaw17.ConvertEach'. -/
def convertEachUptoCard : Claim7 := { stood := { row := convertEachUptoRow, standIns := [], harness := (true, "5157361bb7081c3e38638691101a97ca0e18c869a36b86cebd350c8c40e65bb3"), looks := true }, kinds := [], alts := [], laidByText := true, laidKinds := [.data, .data, .data, .data, .sentinel, .sentinel, .listed, .data, .pinned, .pinned], laidTests := true, laidLooks := .later }
def ConvertEachUptoCardSaid : Prop := Claim7.holds Tryz.pinned (.plain (OpenSpec.upto convertEachSpec)) convertEachUptoCard

/-- THE SECOND FORM's CARD OF 'oxbowlaw17.ConvertStrings'. -/
def convertStringsUptoCard : Claim7 := { stood := { row := convertStringsUptoRow, standIns := [], harness := (true, "5157361bb7081c3e38638691101a97ca0e18c869a36b86cebd350c8c40e65bb3"), looks := true }, kinds := [], alts := [], laidByText := true, laidKinds := [.data, .data, .data, .data, .sentinel, .sentinel, .listed, .data, .pinned, .pinned], laidTests := true, laidLooks := .later }
def ConvertStringsUptoCardSaid : Prop := Claim7.holds Tryz.pinned (.plain (OpenSpec.upto convertStringsSpec)) convertStringsUptoCard

/-- THE SECOND FORM's CARD OF 'oxbowlaw17.ConvertWords'. -/
def convertWordsUptoCard : Claim7 := { stood := { row := convertWordsUptoRow, standIns := [], harness := (true, "5157361bb7081c3e38638691101a97ca0e18c869a36b86cebd350c8c40e65bb3"), looks := true }, kinds := [], alts := [], laidByText := true, laidKinds := [.data, .data, .data, .data, .sentinel, .sentinel, .listed, .data, .pinned, .pinned], laidTests := true, laidLooks := .later }
def ConvertWordsUptoCardSaid : Prop := Claim7.holds Tryz.pinned (.plain (OpenSpec.upto convertWordsSpec)) convertWordsUptoCard

/-- THE SECOND FORM's CARD OF 'oxbowlaw17.ConvertNumbers'. -/
def convertNumbersUptoCard : Claim7 := { stood := { row := convertNumbersUptoRow, standIns := [], harness := (true, "5157361bb7081c3e38638691101a97ca0e18c869a36b86cebd350c8c40e65bb3"), looks := true }, kinds := [], alts := [], laidByText := true, laidKinds := [.data, .data, .data, .data, .sentinel, .sentinel, .listed, .data, .pinned, .pinned], laidTests := true, laidLooks := .later }
def ConvertNumbersUptoCardSaid : Prop := Claim7.holds Tryz.pinned (.plain (OpenSpec.upto convertNumbersSpec)) convertNumbersUptoCard

/-- THE SECOND FORM's CARD OF 'oxbowlaw14.PpifEval'. -/
def ppifEvalUptoCard : Claim7 := { stood := { row := ppifEvalUptoRow, standIns := [], harness := (true, "5157361bb7081c3e38638691101a97ca0e18c869a36b86cebd350c8c40e65bb3"), looks := true }, kinds := [], alts := [], laidByText := true, laidKinds := [.data, .data, .data, .data, .sentinel, .sentinel, .pinned, .pinned], laidTests := true, laidLooks := .later }
def PpifEvalUptoCardSaid : Prop := Claim7.holds Tryz.pinned (.plain (OpenSpec.upto ppifEvalSpec)) ppifEvalUptoCard

/-- THE SECOND FORM's CARD OF 'oxbowlaw14.PpifSums'. -/
def ppifSumsUptoCard : Claim7 := { stood := { row := ppifSumsUptoRow, standIns := [], harness := (true, "5157361bb7081c3e38638691101a97ca0e18c869a36b86cebd350c8c40e65bb3"), looks := true }, kinds := [], alts := [], laidByText := true, laidKinds := [.data, .data, .data, .data, .sentinel, .sentinel, .pinned, .pinned], laidTests := true, laidLooks := .later }
def PpifSumsUptoCardSaid : Prop := Claim7.holds Tryz.pinned (.plain (OpenSpec.upto ppifSumsSpec)) ppifSumsUptoCard

/-- THE SECOND FORM's CARD OF 'oxbowlaw14.PpifSkips'. -/
def ppifSkipsUptoCard : Claim7 := { stood := { row := ppifSkipsUptoRow, standIns := [], harness := (true, "5157361bb7081c3e38638691101a97ca0e18c869a36b86cebd350c8c40e65bb3"), looks := true }, kinds := [], alts := [], laidByText := true, laidKinds := [.data, .data, .data, .data, .sentinel, .sentinel, .pinned, .pinned], laidTests := true, laidLooks := .later }
def PpifSkipsUptoCardSaid : Prop := Claim7.holds Tryz.pinned (.plain (OpenSpec.upto ppifSkipsSpec)) ppifSkipsUptoCard

/-- THE SECOND FORM's CARD OF 'oxbowlaw14.PpifBinds'. -/
def ppifBindsUptoCard : Claim7 := { stood := { row := ppifBindsUptoRow, standIns := [], harness := (true, "5157361bb7081c3e38638691101a97ca0e18c869a36b86cebd350c8c40e65bb3"), looks := true }, kinds := [], alts := [], laidByText := true, laidKinds := [.data, .data, .data, .data, .sentinel, .sentinel, .pinned, .pinned], laidTests := true, laidLooks := .later }
def PpifBindsUptoCardSaid : Prop := Claim7.holds Tryz.pinned (.plain (OpenSpec.upto ppifBindsSpec)) ppifBindsUptoCard

/-- THE SECOND FORM's CARD OF 'oxbowlaw14.PpifAsks'. -/
def ppifAsksUptoCard : Claim7 := { stood := { row := ppifAsksUptoRow, standIns := [], harness := (true, "5157361bb7081c3e38638691101a97ca0e18c869a36b86cebd350c8c40e65bb3"), looks := true }, kinds := [], alts := [], laidByText := true, laidKinds := [.data, .data, .data, .data, .sentinel, .sentinel, .pinned, .pinned], laidTests := true, laidLooks := .later }
def PpifAsksUptoCardSaid : Prop := Claim7.holds Tryz.pinned (.plain (OpenSpec.upto ppifAsksSpec)) ppifAsksUptoCard

/-- THE SECOND FORM's CARD OF 'oxbowlaw14.PpifShifts'. -/
def ppifShiftsUptoCard : Claim7 := { stood := { row := ppifShiftsUptoRow, standIns := [], harness := (true, "5157361bb7081c3e38638691101a97ca0e18c869a36b86cebd350c8c40e65bb3"), looks := true }, kinds := [], alts := [], laidByText := true, laidKinds := [.data, .data, .data, .data, .sentinel, .sentinel, .pinned, .pinned], laidTests := true, laidLooks := .later }
def PpifShiftsUptoCardSaid : Prop := Claim7.holds Tryz.pinned (.plain (OpenSpec.upto ppifShiftsSpec)) ppifShiftsUptoCard
end Rows
end Go.Proofs.YtcnmehbkpaoolaaGreatDoor
