/-
  DERIVED. GIVEN WITH THE SEED: THE CARDS: each row of YtdaodcdbfaikjaaDoorRows.lean that lists a variable, with what it lists TIED to the program's text (the seventh form; the later family's looks); each row that meets fmt, with fmt's text TOLD by the authors' own Lean function (tested against real Go, not proved from fmt's source: count such statements apart). THE CARD IS WHAT COUNTS. Prove the row's statement (the work); the ties are given (YtdaodcdbfaikjaaDoorTie.lean); close each card by the builder's one call (the guide's Derived/Test/ToyasCard.lean, 'card_holds'). Laid BY PROGRAM, IN A SANDBOX (cutbox-door.mjs). By AI agents, Wed Nov 11 2026. No macro, syntax, notation, axiom, sorry.
-/
import Derived.Test.YtdaodcdbfaikjaaDoorRows
import GoSem.ClaimSeven
namespace Go.Proofs.YtdaodcdbfaikjaaDoor
namespace Rows

/-- THE TIED CARD OF 'platenlaw16.ShiftLines'. -/
def shiftLinesCard : Claim7 := { stood := { row := shiftLinesRow, standIns := [], harness := (true, "53b68fad77ce91d20c8a7f6becd64c930fa518c45d69c34b04ef4ede71c423c0"), looks := false }, kinds := [], alts := [], laidByText := true, laidKinds := [.data, .pinned], laidTests := true, laidLooks := .later }
def ShiftLinesCardSaid : Prop := Claim7.holds Tryd.pinned (.plain (OpenSpec.ofChange shiftLinesSpec)) shiftLinesCard

/-- THE TIED CARD OF 'platenlaw16.ShiftBack'. -/
def shiftBackCard : Claim7 := { stood := { row := shiftBackRow, standIns := [], harness := (true, "53b68fad77ce91d20c8a7f6becd64c930fa518c45d69c34b04ef4ede71c423c0"), looks := false }, kinds := [], alts := [], laidByText := true, laidKinds := [.data, .pinned], laidTests := true, laidLooks := .later }
def ShiftBackCardSaid : Prop := Claim7.holds Tryd.pinned (.plain (OpenSpec.ofChange shiftBackSpec)) shiftBackCard

/-- THE TIED CARD OF 'platenlaw16.ShiftAdds'. -/
def shiftAddsCard : Claim7 := { stood := { row := shiftAddsRow, standIns := [], harness := (true, "53b68fad77ce91d20c8a7f6becd64c930fa518c45d69c34b04ef4ede71c423c0"), looks := false }, kinds := [], alts := [], laidByText := true, laidKinds := [.data, .pinned], laidTests := true, laidLooks := .later }
def ShiftAddsCardSaid : Prop := Claim7.holds Tryd.pinned (.plain (OpenSpec.ofChange shiftAddsSpec)) shiftAddsCard

/-- THE TIED CARD OF 'platenlaw16.ShiftColumns'. -/
def shiftColumnsCard : Claim7 := { stood := { row := shiftColumnsRow, standIns := [], harness := (true, "53b68fad77ce91d20c8a7f6becd64c930fa518c45d69c34b04ef4ede71c423c0"), looks := false }, kinds := [], alts := [], laidByText := true, laidKinds := [.data, .pinned], laidTests := true, laidLooks := .later }
def ShiftColumnsCardSaid : Prop := Claim7.holds Tryd.pinned (.plain (OpenSpec.ofChange shiftColumnsSpec)) shiftColumnsCard

/-- THE TIED CARD OF 'platenlaw16.ShiftTexts'. -/
def shiftTextsCard : Claim7 := { stood := { row := shiftTextsRow, standIns := [], harness := (true, "53b68fad77ce91d20c8a7f6becd64c930fa518c45d69c34b04ef4ede71c423c0"), looks := false }, kinds := [], alts := [], laidByText := true, laidKinds := [.data, .pinned], laidTests := true, laidLooks := .later }
def ShiftTextsCardSaid : Prop := Claim7.holds Tryd.pinned (.plain (OpenSpec.ofChange shiftTextsSpec)) shiftTextsCard

/-- THE TIED CARD OF 'platenlaw16.ShiftStays'. -/
def shiftStaysCard : Claim7 := { stood := { row := shiftStaysRow, standIns := [], harness := (true, "53b68fad77ce91d20c8a7f6becd64c930fa518c45d69c34b04ef4ede71c423c0"), looks := false }, kinds := [], alts := [], laidByText := true, laidKinds := [.data, .pinned], laidTests := true, laidLooks := .later }
def ShiftStaysCardSaid : Prop := Claim7.holds Tryd.pinned (.plain (OpenSpec.ofChange shiftStaysSpec)) shiftStaysCard

/-- THE TIED CARD OF 'platenlaw16.ShiftLong'. -/
def shiftLongCard : Claim7 := { stood := { row := shiftLongRow, standIns := [], harness := (true, "53b68fad77ce91d20c8a7f6becd64c930fa518c45d69c34b04ef4ede71c423c0"), looks := false }, kinds := [], alts := [], laidByText := true, laidKinds := [.data, .pinned], laidTests := true, laidLooks := .later }
def ShiftLongCardSaid : Prop := Claim7.holds Tryd.pinned (.plain (OpenSpec.ofChange shiftLongSpec)) shiftLongCard

/-- THE SECOND FORM's CARD OF 'platenlaw16.ShiftLines'. -/
def shiftLinesUptoCard : Claim7 := { stood := { row := shiftLinesUptoRow, standIns := [], harness := (true, "53b68fad77ce91d20c8a7f6becd64c930fa518c45d69c34b04ef4ede71c423c0"), looks := false }, kinds := [], alts := [], laidByText := true, laidKinds := [.data, .pinned], laidTests := true, laidLooks := .later }
def ShiftLinesUptoCardSaid : Prop := Claim7.holds Tryd.pinned (.plain (OpenSpec.upto shiftLinesSpec)) shiftLinesUptoCard

/-- THE SECOND FORM's CARD OF 'platenlaw16.ShiftBack'. -/
def shiftBackUptoCard : Claim7 := { stood := { row := shiftBackUptoRow, standIns := [], harness := (true, "53b68fad77ce91d20c8a7f6becd64c930fa518c45d69c34b04ef4ede71c423c0"), looks := false }, kinds := [], alts := [], laidByText := true, laidKinds := [.data, .pinned], laidTests := true, laidLooks := .later }
def ShiftBackUptoCardSaid : Prop := Claim7.holds Tryd.pinned (.plain (OpenSpec.upto shiftBackSpec)) shiftBackUptoCard

/-- THE SECOND FORM's CARD OF 'platenlaw16.ShiftAdds'. -/
def shiftAddsUptoCard : Claim7 := { stood := { row := shiftAddsUptoRow, standIns := [], harness := (true, "53b68fad77ce91d20c8a7f6becd64c930fa518c45d69c34b04ef4ede71c423c0"), looks := false }, kinds := [], alts := [], laidByText := true, laidKinds := [.data, .pinned], laidTests := true, laidLooks := .later }
def ShiftAddsUptoCardSaid : Prop := Claim7.holds Tryd.pinned (.plain (OpenSpec.upto shiftAddsSpec)) shiftAddsUptoCard

/-- THE SECOND FORM's CARD OF 'platenlaw16.ShiftColumns'. -/
def shiftColumnsUptoCard : Claim7 := { stood := { row := shiftColumnsUptoRow, standIns := [], harness := (true, "53b68fad77ce91d20c8a7f6becd64c930fa518c45d69c34b04ef4ede71c423c0"), looks := false }, kinds := [], alts := [], laidByText := true, laidKinds := [.data, .pinned], laidTests := true, laidLooks := .later }
def ShiftColumnsUptoCardSaid : Prop := Claim7.holds Tryd.pinned (.plain (OpenSpec.upto shiftColumnsSpec)) shiftColumnsUptoCard

/-- THE SECOND FORM's CARD OF 'platenlaw16.ShiftTexts'. -/
def shiftTextsUptoCard : Claim7 := { stood := { row := shiftTextsUptoRow, standIns := [], harness := (true, "53b68fad77ce91d20c8a7f6becd64c930fa518c45d69c34b04ef4ede71c423c0"), looks := false }, kinds := [], alts := [], laidByText := true, laidKinds := [.data, .pinned], laidTests := true, laidLooks := .later }
def ShiftTextsUptoCardSaid : Prop := Claim7.holds Tryd.pinned (.plain (OpenSpec.upto shiftTextsSpec)) shiftTextsUptoCard

/-- THE SECOND FORM's CARD OF 'platenlaw16.ShiftStays'. -/
def shiftStaysUptoCard : Claim7 := { stood := { row := shiftStaysUptoRow, standIns := [], harness := (true, "53b68fad77ce91d20c8a7f6becd64c930fa518c45d69c34b04ef4ede71c423c0"), looks := false }, kinds := [], alts := [], laidByText := true, laidKinds := [.data, .pinned], laidTests := true, laidLooks := .later }
def ShiftStaysUptoCardSaid : Prop := Claim7.holds Tryd.pinned (.plain (OpenSpec.upto shiftStaysSpec)) shiftStaysUptoCard

/-- THE SECOND FORM's CARD OF 'platenlaw16.ShiftLong'. -/
def shiftLongUptoCard : Claim7 := { stood := { row := shiftLongUptoRow, standIns := [], harness := (true, "53b68fad77ce91d20c8a7f6becd64c930fa518c45d69c34b04ef4ede71c423c0"), looks := false }, kinds := [], alts := [], laidByText := true, laidKinds := [.data, .pinned], laidTests := true, laidLooks := .later }
def ShiftLongUptoCardSaid : Prop := Claim7.holds Tryd.pinned (.plain (OpenSpec.upto shiftLongSpec)) shiftLongUptoCard
end Rows
end Go.Proofs.YtdaodcdbfaikjaaDoor
