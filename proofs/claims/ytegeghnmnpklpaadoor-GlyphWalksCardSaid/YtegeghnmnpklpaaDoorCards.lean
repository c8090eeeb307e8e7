/-
  DERIVED. GIVEN WITH THE SEED: THE CARDS: each row of YtegeghnmnpklpaaDoorRows.lean that lists a variable, with what it lists TIED to the program's text (the seventh form; the later family's looks); each row that meets fmt, with fmt's text TOLD by the authors' own Lean function (tested against real Go, not proved from fmt's source: count such statements apart). THE CARD IS WHAT COUNTS. Prove the row's statement (the work); the ties are given (YtegeghnmnpklpaaDoorTie.lean); close each card by the builder's one call (the guide's Derived/Test/ToyasCard.lean, 'card_holds'). Laid BY PROGRAM, IN A SANDBOX (cutbox-door.mjs). By AI agents, Wed Nov 11 2026. No macro, syntax, notation, axiom, sorry.
-/
import Derived.Test.YtegeghnmnpklpaaDoorRows
import GoSem.ClaimSeven
namespace Go.Proofs.YtegeghnmnpklpaaDoor
namespace Rows

/-- THE TIED CARD OF 'platenlaw01.GlyphNexts'. -/
def glyphNextsCard : Claim7 := { stood := { row := glyphNextsRow, standIns := [], harness := (true, "12276a4592865baa3e8a143cfc5c4b9a9b4b76f4431e73544e0932d163077cd4"), looks := false }, kinds := [], alts := [], laidByText := true, laidKinds := [.data, .pinned], laidTests := true, laidLooks := .later }
def GlyphNextsCardSaid : Prop := Claim7.holds Tryd.pinned (.plain (OpenSpec.ofChange glyphNextsSpec)) glyphNextsCard

/-- THE TIED CARD OF 'platenlaw01.GlyphPrevs'. -/
def glyphPrevsCard : Claim7 := { stood := { row := glyphPrevsRow, standIns := [], harness := (true, "12276a4592865baa3e8a143cfc5c4b9a9b4b76f4431e73544e0932d163077cd4"), looks := false }, kinds := [], alts := [], laidByText := true, laidKinds := [.data, .pinned], laidTests := true, laidLooks := .later }
def GlyphPrevsCardSaid : Prop := Claim7.holds Tryd.pinned (.plain (OpenSpec.ofChange glyphPrevsSpec)) glyphPrevsCard

/-- THE TIED CARD OF 'platenlaw01.GlyphFloors'. -/
def glyphFloorsCard : Claim7 := { stood := { row := glyphFloorsRow, standIns := [], harness := (true, "12276a4592865baa3e8a143cfc5c4b9a9b4b76f4431e73544e0932d163077cd4"), looks := false }, kinds := [], alts := [], laidByText := true, laidKinds := [.data, .pinned], laidTests := true, laidLooks := .later }
def GlyphFloorsCardSaid : Prop := Claim7.holds Tryd.pinned (.plain (OpenSpec.ofChange glyphFloorsSpec)) glyphFloorsCard

/-- THE TIED CARD OF 'platenlaw01.GlyphWalks'. -/
def glyphWalksCard : Claim7 := { stood := { row := glyphWalksRow, standIns := [], harness := (true, "12276a4592865baa3e8a143cfc5c4b9a9b4b76f4431e73544e0932d163077cd4"), looks := false }, kinds := [], alts := [], laidByText := true, laidKinds := [.data, .pinned], laidTests := true, laidLooks := .later }
def GlyphWalksCardSaid : Prop := Claim7.holds Tryd.pinned (.plain (OpenSpec.ofChange glyphWalksSpec)) glyphWalksCard

/-- THE TIED CARD OF 'platenlaw01.GlyphJoins'. -/
def glyphJoinsCard : Claim7 := { stood := { row := glyphJoinsRow, standIns := [], harness := (true, "12276a4592865baa3e8a143cfc5c4b9a9b4b76f4431e73544e0932d163077cd4"), looks := false }, kinds := [], alts := [], laidByText := true, laidKinds := [.data, .pinned], laidTests := true, laidLooks := .later }
def GlyphJoinsCardSaid : Prop := Claim7.holds Tryd.pinned (.plain (OpenSpec.ofChange glyphJoinsSpec)) glyphJoinsCard

/-- THE TIED CARD OF 'platenlaw01.GlyphSteps'. -/
def glyphStepsCard : Claim7 := { stood := { row := glyphStepsRow, standIns := [], harness := (true, "12276a4592865baa3e8a143cfc5c4b9a9b4b76f4431e73544e0932d163077cd4"), looks := false }, kinds := [], alts := [], laidByText := true, laidKinds := [.data, .pinned], laidTests := true, laidLooks := .later }
def GlyphStepsCardSaid : Prop := Claim7.holds Tryd.pinned (.plain (OpenSpec.ofChange glyphStepsSpec)) glyphStepsCard

/-- THE TIED CARD OF 'platenlaw01.GlyphWides'. -/
def glyphWidesCard : Claim7 := { stood := { row := glyphWidesRow, standIns := [], harness := (true, "12276a4592865baa3e8a143cfc5c4b9a9b4b76f4431e73544e0932d163077cd4"), looks := false }, kinds := [], alts := [], laidByText := true, laidKinds := [.data, .pinned], laidTests := true, laidLooks := .later }
def GlyphWidesCardSaid : Prop := Claim7.holds Tryd.pinned (.plain (OpenSpec.ofChange glyphWidesSpec)) glyphWidesCard

/-- THE TIED CARD OF 'platenlaw01.GlyphBlanks'. -/
def glyphBlanksCard : Claim7 := { stood := { row := glyphBlanksRow, standIns := [], harness := (true, "12276a4592865baa3e8a143cfc5c4b9a9b4b76f4431e73544e0932d163077cd4"), looks := false }, kinds := [], alts := [], laidByText := true, laidKinds := [.data, .pinned], laidTests := true, laidLooks := .later }
def GlyphBlanksCardSaid : Prop := Claim7.holds Tryd.pinned (.plain (OpenSpec.ofChange glyphBlanksSpec)) glyphBlanksCard

/-- THE TIED CARD OF 'platenlaw01.GlyphAts'. -/
def glyphAtsCard : Claim7 := { stood := { row := glyphAtsRow, standIns := [], harness := (true, "12276a4592865baa3e8a143cfc5c4b9a9b4b76f4431e73544e0932d163077cd4"), looks := false }, kinds := [], alts := [], laidByText := true, laidKinds := [.data, .pinned], laidTests := true, laidLooks := .later }
def GlyphAtsCardSaid : Prop := Claim7.holds Tryd.pinned (.plain (OpenSpec.ofChange glyphAtsSpec)) glyphAtsCard

/-- THE TIED CARD OF 'platenlaw01.GlyphLeast'. -/
def glyphLeastCard : Claim7 := { stood := { row := glyphLeastRow, standIns := [], harness := (true, "12276a4592865baa3e8a143cfc5c4b9a9b4b76f4431e73544e0932d163077cd4"), looks := false }, kinds := [], alts := [], laidByText := true, laidKinds := [.data, .pinned], laidTests := true, laidLooks := .later }
def GlyphLeastCardSaid : Prop := Claim7.holds Tryd.pinned (.plain (OpenSpec.ofChange glyphLeastSpec)) glyphLeastCard

/-- THE TIED CARD OF 'platenlaw01.GlyphFills'. -/
def glyphFillsCard : Claim7 := { stood := { row := glyphFillsRow, standIns := [], harness := (true, "12276a4592865baa3e8a143cfc5c4b9a9b4b76f4431e73544e0932d163077cd4"), looks := false }, kinds := [], alts := [], laidByText := true, laidKinds := [.data, .pinned], laidTests := true, laidLooks := .later }
def GlyphFillsCardSaid : Prop := Claim7.holds Tryd.pinned (.plain (OpenSpec.ofChange glyphFillsSpec)) glyphFillsCard

/-- THE SECOND FORM's CARD OF 'platenlaw01.GlyphNexts'. -/
def glyphNextsUptoCard : Claim7 := { stood := { row := glyphNextsUptoRow, standIns := [], harness := (true, "12276a4592865baa3e8a143cfc5c4b9a9b4b76f4431e73544e0932d163077cd4"), looks := false }, kinds := [], alts := [], laidByText := true, laidKinds := [.data, .pinned], laidTests := true, laidLooks := .later }
def GlyphNextsUptoCardSaid : Prop := Claim7.holds Tryd.pinned (.plain (OpenSpec.upto glyphNextsSpec)) glyphNextsUptoCard

/-- THE SECOND FORM's CARD OF 'platenlaw01.GlyphPrevs'. -/
def glyphPrevsUptoCard : Claim7 := { stood := { row := glyphPrevsUptoRow, standIns := [], harness := (true, "12276a4592865baa3e8a143cfc5c4b9a9b4b76f4431e73544e0932d163077cd4"), looks := false }, kinds := [], alts := [], laidByText := true, laidKinds := [.data, .pinned], laidTests := true, laidLooks := .later }
def GlyphPrevsUptoCardSaid : Prop := Claim7.holds Tryd.pinned (.plain (OpenSpec.upto glyphPrevsSpec)) glyphPrevsUptoCard

/-- THE SECOND FORM's CARD OF 'platenlaw01.GlyphFloors'. -/
def glyphFloorsUptoCard : Claim7 := { stood := { row := glyphFloorsUptoRow, standIns := [], harness := (true, "12276a4592865baa3e8a143cfc5c4b9a9b4b76f4431e73544e0932d163077cd4"), looks := false }, kinds := [], alts := [], laidByText := true, laidKinds := [.data, .pinned], laidTests := true, laidLooks := .later }
def GlyphFloorsUptoCardSaid : Prop := Claim7.holds Tryd.pinned (.plain (OpenSpec.upto glyphFloorsSpec)) glyphFloorsUptoCard

/-- THE SECOND FORM's CARD OF 'platenlaw01.GlyphWalks'. -/
def glyphWalksUptoCard : Claim7 := { stood := { row := glyphWalksUptoRow, standIns := [], harness := (true, "12276a4592865baa3e8a143cfc5c4b9a9b4b76f4431e73544e0932d163077cd4"), looks := false }, kinds := [], alts := [], laidByText := true, laidKinds := [.data, .pinned], laidTests := true, laidLooks := .later }
def GlyphWalksUptoCardSaid : Prop := Claim7.holds Tryd.pinned (.plain (OpenSpec.upto glyphWalksSpec)) glyphWalksUptoCard

/-- THE SECOND FORM's CARD OF 'platenlaw01.GlyphJoins'. -/
def glyphJoinsUptoCard : Claim7 := { stood := { row := glyphJoinsUptoRow, standIns := [], harness := (true, "12276a4592865baa3e8a143cfc5c4b9a9b4b76f4431e73544e0932d163077cd4"), looks := false }, kinds := [], alts := [], laidByText := true, laidKinds := [.data, .pinned], laidTests := true, laidLooks := .later }
def GlyphJoinsUptoCardSaid : Prop := Claim7.holds Tryd.pinned (.plain (OpenSpec.upto glyphJoinsSpec)) glyphJoinsUptoCard

/-- THE SECOND FORM's CARD OF 'platenlaw01.GlyphSteps'. -/
def glyphStepsUptoCard : Claim7 := { stood := { row := glyphStepsUptoRow, standIns := [], harness := (true, "12276a4592865baa3e8a143cfc5c4b9a9b4b76f4431e73544e0932d163077cd4"), looks := false }, kinds := [], alts := [], laidByText := true, laidKinds := [.data, .pinned], laidTests := true, laidLooks := .later }
def GlyphStepsUptoCardSaid : Prop := Claim7.holds Tryd.pinned (.plain (OpenSpec.upto glyphStepsSpec)) glyphStepsUptoCard

/-- THE SECOND FORM's CARD OF 'platenlaw01.GlyphWides'. -/
def glyphWidesUptoCard : Claim7 := { stood := { row := glyphWidesUptoRow, standIns := [], harness := (true, "12276a4592865baa3e8a143cfc5c4b9a9b4b76f4431e73544e0932d163077cd4"), looks := false }, kinds := [], alts := [], laidByText := true, laidKinds := [.data, .pinned], laidTests := true, laidLooks := .later }
def GlyphWidesUptoCardSaid : Prop := Claim7.holds Tryd.pinned (.plain (OpenSpec.upto glyphWidesSpec)) glyphWidesUptoCard

/-- THE SECOND FORM's CARD OF 'platenlaw01.GlyphBlanks'. -/
def glyphBlanksUptoCard : Claim7 := { stood := { row := glyphBlanksUptoRow, standIns := [], harness := (true, "12276a4592865baa3e8a143cfc5c4b9a9b4b76f4431e73544e0932d163077cd4"), looks := false }, kinds := [], alts := [], laidByText := true, laidKinds := [.data, .pinned], laidTests := true, laidLooks := .later }
def GlyphBlanksUptoCardSaid : Prop := Claim7.holds Tryd.pinned (.plain (OpenSpec.upto glyphBlanksSpec)) glyphBlanksUptoCard

/-- THE SECOND FORM's CARD OF 'platenlaw01.GlyphAts'. -/
def glyphAtsUptoCard : Claim7 := { stood := { row := glyphAtsUptoRow, standIns := [], harness := (true, "12276a4592865baa3e8a143cfc5c4b9a9b4b76f4431e73544e0932d163077cd4"), looks := false }, kinds := [], alts := [], laidByText := true, laidKinds := [.data, .pinned], laidTests := true, laidLooks := .later }
def GlyphAtsUptoCardSaid : Prop := Claim7.holds Tryd.pinned (.plain (OpenSpec.upto glyphAtsSpec)) glyphAtsUptoCard

/-- THE SECOND FORM's CARD OF 'platenlaw01.GlyphLeast'. -/
def glyphLeastUptoCard : Claim7 := { stood := { row := glyphLeastUptoRow, standIns := [], harness := (true, "12276a4592865baa3e8a143cfc5c4b9a9b4b76f4431e73544e0932d163077cd4"), looks := false }, kinds := [], alts := [], laidByText := true, laidKinds := [.data, .pinned], laidTests := true, laidLooks := .later }
def GlyphLeastUptoCardSaid : Prop := Claim7.holds Tryd.pinned (.plain (OpenSpec.upto glyphLeastSpec)) glyphLeastUptoCard

/-- THE SECOND FORM's CARD OF 'platenlaw01.GlyphFills'. -/
def glyphFillsUptoCard : Claim7 := { stood := { row := glyphFillsUptoRow, standIns := [], harness := (true, "12276a4592865baa3e8a143cfc5c4b9a9b4b76f4431e73544e0932d163077cd4"), looks := false }, kinds := [], alts := [], laidByText := true, laidKinds := [.data, .pinned], laidTests := true, laidLooks := .later }
def GlyphFillsUptoCardSaid : Prop := Claim7.holds Tryd.pinned (.plain (OpenSpec.upto glyphFillsSpec)) glyphFillsUptoCard
end Rows
end Go.Proofs.YtegeghnmnpklpaaDoor
