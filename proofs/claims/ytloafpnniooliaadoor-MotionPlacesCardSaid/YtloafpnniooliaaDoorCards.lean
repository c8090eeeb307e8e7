/-
  DERIVED. GIVEN WITH THE SEED: THE CARDS: each row of YtloafpnniooliaaDoorRows.lean that lists a variable, with what it lists TIED to the program's text (the seventh form; the later family's looks); each row that meets fmt, with fmt's text TOLD by the authors' own Lean function (tested against real Go, not proved from fmt's source: count such statements apart). THE CARD IS WHAT COUNTS. Prove the row's statement (the work); the ties are given (YtloafpnniooliaaDoorTie.lean); close each card by the builder's one call (the guide's Derived/Test/ToyasCard.lean, 'card_holds'). Laid BY PROGRAM, IN A SANDBOX (cutbox-door.mjs). By AI agents, Wed Nov 11 2026. No macro, syntax, notation, axiom, sorry.
-/
import Derived.Test.YtloafpnniooliaaDoorRows
import GoSem.ClaimSeven
namespace Go.Proofs.YtloafpnniooliaaDoor
namespace Rows

/-- THE TIED CARD OF 'platenlaw19.MotionKeys'. -/
def motionKeysCard : Claim7 := { stood := { row := motionKeysRow, standIns := [], harness := (true, "fca97b8b413e09c4b7ed1f1171dfb69f844f0e48e765aafbdfd10102e20e0bb9"), looks := false }, kinds := [], alts := [], laidByText := true, laidKinds := [.data, .pinned], laidTests := true, laidLooks := .later }
def MotionKeysCardSaid : Prop := Claim7.holds Tryd.pinned (.plain (OpenSpec.ofChange motionKeysSpec)) motionKeysCard

/-- THE TIED CARD OF 'platenlaw19.MotionPlaces'. -/
def motionPlacesCard : Claim7 := { stood := { row := motionPlacesRow, standIns := [], harness := (true, "fca97b8b413e09c4b7ed1f1171dfb69f844f0e48e765aafbdfd10102e20e0bb9"), looks := false }, kinds := [], alts := [], laidByText := true, laidKinds := [.data, .pinned], laidTests := true, laidLooks := .later }
def MotionPlacesCardSaid : Prop := Claim7.holds Tryd.pinned (.plain (OpenSpec.ofChange motionPlacesSpec)) motionPlacesCard

/-- THE TIED CARD OF 'platenlaw19.MotionSigns'. -/
def motionSignsCard : Claim7 := { stood := { row := motionSignsRow, standIns := [], harness := (true, "fca97b8b413e09c4b7ed1f1171dfb69f844f0e48e765aafbdfd10102e20e0bb9"), looks := false }, kinds := [], alts := [], laidByText := true, laidKinds := [.data, .pinned], laidTests := true, laidLooks := .later }
def MotionSignsCardSaid : Prop := Claim7.holds Tryd.pinned (.plain (OpenSpec.ofChange motionSignsSpec)) motionSignsCard

/-- THE TIED CARD OF 'platenlaw19.MotionLines'. -/
def motionLinesCard : Claim7 := { stood := { row := motionLinesRow, standIns := [], harness := (true, "fca97b8b413e09c4b7ed1f1171dfb69f844f0e48e765aafbdfd10102e20e0bb9"), looks := false }, kinds := [], alts := [], laidByText := true, laidKinds := [.data, .pinned], laidTests := true, laidLooks := .later }
def MotionLinesCardSaid : Prop := Claim7.holds Tryd.pinned (.plain (OpenSpec.ofChange motionLinesSpec)) motionLinesCard

/-- THE TIED CARD OF 'platenlaw19.MotionWords'. -/
def motionWordsCard : Claim7 := { stood := { row := motionWordsRow, standIns := [], harness := (true, "fca97b8b413e09c4b7ed1f1171dfb69f844f0e48e765aafbdfd10102e20e0bb9"), looks := false }, kinds := [], alts := [], laidByText := true, laidKinds := [.data, .pinned], laidTests := true, laidLooks := .later }
def MotionWordsCardSaid : Prop := Claim7.holds Tryd.pinned (.plain (OpenSpec.ofChange motionWordsSpec)) motionWordsCard

/-- THE TIED CARD OF 'platenlaw19.MotionFinds'. -/
def motionFindsCard : Claim7 := { stood := { row := motionFindsRow, standIns := [], harness := (true, "fca97b8b413e09c4b7ed1f1171dfb69f844f0e48e765aafbdfd10102e20e0bb9"), looks := false }, kinds := [], alts := [], laidByText := true, laidKinds := [.data, .pinned], laidTests := true, laidLooks := .later }
def MotionFindsCardSaid : Prop := Claim7.holds Tryd.pinned (.plain (OpenSpec.ofChange motionFindsSpec)) motionFindsCard

/-- THE SECOND FORM's CARD OF 'platenlaw19.MotionKeys'. -/
def motionKeysUptoCard : Claim7 := { stood := { row := motionKeysUptoRow, standIns := [], harness := (true, "fca97b8b413e09c4b7ed1f1171dfb69f844f0e48e765aafbdfd10102e20e0bb9"), looks := false }, kinds := [], alts := [], laidByText := true, laidKinds := [.data, .pinned], laidTests := true, laidLooks := .later }
def MotionKeysUptoCardSaid : Prop := Claim7.holds Tryd.pinned (.plain (OpenSpec.upto motionKeysSpec)) motionKeysUptoCard

/-- THE SECOND FORM's CARD OF 'platenlaw19.MotionPlaces'. -/
def motionPlacesUptoCard : Claim7 := { stood := { row := motionPlacesUptoRow, standIns := [], harness := (true, "fca97b8b413e09c4b7ed1f1171dfb69f844f0e48e765aafbdfd10102e20e0bb9"), looks := false }, kinds := [], alts := [], laidByText := true, laidKinds := [.data, .pinned], laidTests := true, laidLooks := .later }
def MotionPlacesUptoCardSaid : Prop := Claim7.holds Tryd.pinned (.plain (OpenSpec.upto motionPlacesSpec)) motionPlacesUptoCard

/-- THE SECOND FORM's CARD OF 'platenlaw19.MotionSigns'. -/
def motionSignsUptoCard : Claim7 := { stood := { row := motionSignsUptoRow, standIns := [], harness := (true, "fca97b8b413e09c4b7ed1f1171dfb69f844f0e48e765aafbdfd10102e20e0bb9"), looks := false }, kinds := [], alts := [], laidByText := true, laidKinds := [.data, .pinned], laidTests := true, laidLooks := .later }
def MotionSignsUptoCardSaid : Prop := Claim7.holds Tryd.pinned (.plain (OpenSpec.upto motionSignsSpec)) motionSignsUptoCard

/-- THE SECOND FORM's CARD OF 'platenlaw19.MotionLines'. -/
def motionLinesUptoCard : Claim7 := { stood := { row := motionLinesUptoRow, standIns := [], harness := (true, "fca97b8b413e09c4b7ed1f1171dfb69f844f0e48e765aafbdfd10102e20e0bb9"), looks := false }, kinds := [], alts := [], laidByText := true, laidKinds := [.data, .pinned], laidTests := true, laidLooks := .later }
def MotionLinesUptoCardSaid : Prop := Claim7.holds Tryd.pinned (.plain (OpenSpec.upto motionLinesSpec)) motionLinesUptoCard

/-- THE SECOND FORM's CARD OF 'platenlaw19.MotionWords'. -/
def motionWordsUptoCard : Claim7 := { stood := { row := motionWordsUptoRow, standIns := [], harness := (true, "fca97b8b413e09c4b7ed1f1171dfb69f844f0e48e765aafbdfd10102e20e0bb9"), looks := false }, kinds := [], alts := [], laidByText := true, laidKinds := [.data, .pinned], laidTests := true, laidLooks := .later }
def MotionWordsUptoCardSaid : Prop := Claim7.holds Tryd.pinned (.plain (OpenSpec.upto motionWordsSpec)) motionWordsUptoCard

/-- THE SECOND FORM's CARD OF 'platenlaw19.MotionFinds'. -/
def motionFindsUptoCard : Claim7 := { stood := { row := motionFindsUptoRow, standIns := [], harness := (true, "fca97b8b413e09c4b7ed1f1171dfb69f844f0e48e765aafbdfd10102e20e0bb9"), looks := false }, kinds := [], alts := [], laidByText := true, laidKinds := [.data, .pinned], laidTests := true, laidLooks := .later }
def MotionFindsUptoCardSaid : Prop := Claim7.holds Tryd.pinned (.plain (OpenSpec.upto motionFindsSpec)) motionFindsUptoCard
end Rows
end Go.Proofs.YtloafpnniooliaaDoor
