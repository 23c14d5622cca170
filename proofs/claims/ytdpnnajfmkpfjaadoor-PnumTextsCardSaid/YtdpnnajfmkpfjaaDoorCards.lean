/-
  DERIVED. GIVEN WITH THE SEED: THE CARDS: each row of YtdpnnajfmkpfjaaDoorRows.lean that lists a variable, with what it lists TIED to the program's text (the seventh form; the later family's looks); each row that meets fmt, with fmt's text TOLD by the authors' own Lean function (tested against real Go, not proved from fmt's source: count such statements apart). THE CARD IS WHAT COUNTS. Prove the row's statement (the work); the ties are given (YtdpnnajfmkpfjaaDoorTie.lean); close each card by the builder's one call (the guide's Derived/Test/ToyasCard.lean, 'card_holds'). Laid BY PROGRAM, IN A SANDBOX (cutbox-door.mjs). By AI agents, Wed Nov 11 2026. No macro, syntax, notation, axiom, sorry.
-/
import Derived.Test.YtdpnnajfmkpfjaaDoorRows
import GoSem.ClaimSeven
namespace Go.Proofs.YtdpnnajfmkpfjaaDoor
namespace Rows

/-- THE TIED CARD OF 'oxbowlaw13.PnumTexts'. -/
def pnumTextsCard : Claim7 := { stood := { row := pnumTextsRow, standIns := [], harness := (true, "758dfb91ee8c83c7e832b2cf1c02b75187dac30176bd36b4c4625112d6e30088"), looks := true }, kinds := [], alts := [], laidByText := true, laidKinds := [.data, .data, .data, .data, .sentinel, .sentinel, .pinned, .pinned], laidTests := true, laidLooks := .later }
def PnumTextsCardSaid : Prop := Claim7.holds Tryd.pinned (.plain (OpenSpec.ofChange pnumTextsSpec)) pnumTextsCard

/-- THE TIED CARD OF 'oxbowlaw13.PnumForms'. -/
def pnumFormsCard : Claim7 := { stood := { row := pnumFormsRow, standIns := [], harness := (true, "758dfb91ee8c83c7e832b2cf1c02b75187dac30176bd36b4c4625112d6e30088"), looks := true }, kinds := [], alts := [], laidByText := true, laidKinds := [.data, .data, .data, .data, .sentinel, .sentinel, .pinned, .pinned], laidTests := true, laidLooks := .later }
def PnumFormsCardSaid : Prop := Claim7.holds Tryd.pinned (.plain (OpenSpec.ofChange pnumFormsSpec)) pnumFormsCard

/-- THE TIED CARD OF 'oxbowlaw13.PnumBytes'. -/
def pnumBytesCard : Claim7 := { stood := { row := pnumBytesRow, standIns := [], harness := (true, "758dfb91ee8c83c7e832b2cf1c02b75187dac30176bd36b4c4625112d6e30088"), looks := true }, kinds := [], alts := [], laidByText := true, laidKinds := [.data, .data, .data, .data, .sentinel, .sentinel, .pinned, .pinned], laidTests := true, laidLooks := .later }
def PnumBytesCardSaid : Prop := Claim7.holds Tryd.pinned (.plain (OpenSpec.ofChange pnumBytesSpec)) pnumBytesCard

/-- THE TIED CARD OF 'oxbowlaw13.PnumFloats'. -/
def pnumFloatsCard : Claim7 := { stood := { row := pnumFloatsRow, standIns := [], harness := (true, "758dfb91ee8c83c7e832b2cf1c02b75187dac30176bd36b4c4625112d6e30088"), looks := true }, kinds := [], alts := [], laidByText := true, laidKinds := [.data, .data, .data, .data, .sentinel, .sentinel, .pinned, .pinned], laidTests := true, laidLooks := .later }
def PnumFloatsCardSaid : Prop := Claim7.holds Tryd.pinned (.plain (OpenSpec.ofChange pnumFloatsSpec)) pnumFloatsCard

/-- THE TIED CARD OF 'oxbowlaw13.PnumChars'. -/
def pnumCharsCard : Claim7 := { stood := { row := pnumCharsRow, standIns := [], harness := (true, "758dfb91ee8c83c7e832b2cf1c02b75187dac30176bd36b4c4625112d6e30088"), looks := true }, kinds := [], alts := [], laidByText := true, laidKinds := [.data, .data, .data, .data, .sentinel, .sentinel, .pinned, .pinned], laidTests := true, laidLooks := .later }
def PnumCharsCardSaid : Prop := Claim7.holds Tryd.pinned (.plain (OpenSpec.ofChange pnumCharsSpec)) pnumCharsCard

/-- THE SECOND FORM's CARD OF 'oxbowlaw13.PnumTexts'. -/
def pnumTextsUptoCard : Claim7 := { stood := { row := pnumTextsUptoRow, standIns := [], harness := (true, "758dfb91ee8c83c7e832b2cf1c02b75187dac30176bd36b4c4625112d6e30088"), looks := true }, kinds := [], alts := [], laidByText := true, laidKinds := [.data, .data, .data, .data, .sentinel, .sentinel, .pinned, .pinned], laidTests := true, laidLooks := .later }
def PnumTextsUptoCardSaid : Prop := Claim7.holds Tryd.pinned (.plain (OpenSpec.upto pnumTextsSpec)) pnumTextsUptoCard

/-- THE SECOND FORM's CARD OF 'oxbowlaw13.PnumForms'. -/
def pnumFormsUptoCard : Claim7 := { stood := { row := pnumFormsUptoRow, standIns := [], harness := (true, "758dfb91ee8c83c7e832b2cf1c02b75187dac30176bd36b4c4625112d6e30088"), looks := true }, kinds := [], alts := [], laidByText := true, laidKinds := [.data, .data, .data, .data, .sentinel, .sentinel, .pinned, .pinned], laidTests := true, laidLooks := .later }
def PnumFormsUptoCardSaid : Prop := Claim7.holds Tryd.pinned (.plain (OpenSpec.upto pnumFormsSpec)) pnumFormsUptoCard

/-- THE SECOND FORM's CARD OF 'oxbowlaw13.PnumBytes'. -/
def pnumBytesUptoCard : Claim7 := { stood := { row := pnumBytesUptoRow, standIns := [], harness := (true, "758dfb91ee8c83c7e832b2cf1c02b75187dac30176bd36b4c4625112d6e30088"), looks := true }, kinds := [], alts := [], laidByText := true, laidKinds := [.data, .data, .data, .data, .sentinel, .sentinel, .pinned, .pinned], laidTests := true, laidLooks := .later }
def PnumBytesUptoCardSaid : Prop := Claim7.holds Tryd.pinned (.plain (OpenSpec.upto pnumBytesSpec)) pnumBytesUptoCard

/-- THE SECOND FORM's CARD OF 'oxbowlaw13.PnumFloats'. -/
def pnumFloatsUptoCard : Claim7 := { stood := { row := pnumFloatsUptoRow, standIns := [], harness := (true, "758dfb91ee8c83c7e832b2cf1c02b75187dac30176bd36b4c4625112d6e30088"), looks := true }, kinds := [], alts := [], laidByText := true, laidKinds := [.data, .data, .data, .data, .sentinel, .sentinel, .pinned, .pinned], laidTests := true, laidLooks := .later }
def PnumFloatsUptoCardSaid : Prop := Claim7.holds Tryd.pinned (.plain (OpenSpec.upto pnumFloatsSpec)) pnumFloatsUptoCard

/-- THE SECOND FORM's CARD OF 'oxbowlaw13.PnumChars'. -/
def pnumCharsUptoCard : Claim7 := { stood := { row := pnumCharsUptoRow, standIns := [], harness := (true, "758dfb91ee8c83c7e832b2cf1c02b75187dac30176bd36b4c4625112d6e30088"), looks := true }, kinds := [], alts := [], laidByText := true, laidKinds := [.data, .data, .data, .data, .sentinel, .sentinel, .pinned, .pinned], laidTests := true, laidLooks := .later }
def PnumCharsUptoCardSaid : Prop := Claim7.holds Tryd.pinned (.plain (OpenSpec.upto pnumCharsSpec)) pnumCharsUptoCard
end Rows
end Go.Proofs.YtdpnnajfmkpfjaaDoor
