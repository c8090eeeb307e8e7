/-
  DERIVED. GIVEN WITH THE SEED: THE CARDS: each row of YtkdecmgockgmkaaDoorRows.lean that lists a variable, with what it lists TIED to the program's text (the seventh form; the later family's looks); each row that meets fmt, with fmt's text TOLD by the authors' own Lean function (tested against real Go, not proved from fmt's source: count such statements apart). THE CARD IS WHAT COUNTS. Prove the row's statement (the work); the ties are given (YtkdecmgockgmkaaDoorTie.lean); close each card by the builder's one call (the guide's Derived/Test/ToyasCard.lean, 'card_holds'). Laid BY PROGRAM, IN A SANDBOX (cutbox-door.mjs). By AI agents, Wed Nov 11 2026. No macro, syntax, notation, axiom, sorry.
-/
import Derived.Test.YtkdecmgockgmkaaDoorRows
import GoSem.ClaimSeven
namespace Go.Proofs.YtkdecmgockgmkaaDoor
namespace Rows

/-- THE TIED CARD OF 'platenlaw05.WordsClasses'. -/
def wordsClassesCard : Claim7 := { stood := { row := wordsClassesRow, standIns := [], harness := (true, "080db40af6cb14a29c4e69d881d42b7536786923b9854939d661c9c7dacb34c7"), looks := false }, kinds := [], alts := [], laidByText := true, laidKinds := [.data, .pinned], laidTests := true, laidLooks := .later }
def WordsClassesCardSaid : Prop := Claim7.holds Tryd.pinned (.plain (OpenSpec.ofChange wordsClassesSpec)) wordsClassesCard

/-- THE TIED CARD OF 'platenlaw05.WordsRuns'. -/
def wordsRunsCard : Claim7 := { stood := { row := wordsRunsRow, standIns := [], harness := (true, "080db40af6cb14a29c4e69d881d42b7536786923b9854939d661c9c7dacb34c7"), looks := false }, kinds := [], alts := [], laidByText := true, laidKinds := [.data, .pinned], laidTests := true, laidLooks := .later }
def WordsRunsCardSaid : Prop := Claim7.holds Tryd.pinned (.plain (OpenSpec.ofChange wordsRunsSpec)) wordsRunsCard

/-- THE TIED CARD OF 'platenlaw05.WordsLast'. -/
def wordsLastCard : Claim7 := { stood := { row := wordsLastRow, standIns := [], harness := (true, "080db40af6cb14a29c4e69d881d42b7536786923b9854939d661c9c7dacb34c7"), looks := false }, kinds := [], alts := [], laidByText := true, laidKinds := [.data, .pinned], laidTests := true, laidLooks := .later }
def WordsLastCardSaid : Prop := Claim7.holds Tryd.pinned (.plain (OpenSpec.ofChange wordsLastSpec)) wordsLastCard

/-- THE TIED CARD OF 'platenlaw05.WordsForward'. -/
def wordsForwardCard : Claim7 := { stood := { row := wordsForwardRow, standIns := [], harness := (true, "080db40af6cb14a29c4e69d881d42b7536786923b9854939d661c9c7dacb34c7"), looks := false }, kinds := [], alts := [], laidByText := true, laidKinds := [.data, .pinned], laidTests := true, laidLooks := .later }
def WordsForwardCardSaid : Prop := Claim7.holds Tryd.pinned (.plain (OpenSpec.ofChange wordsForwardSpec)) wordsForwardCard

/-- THE TIED CARD OF 'platenlaw05.WordsBack'. -/
def wordsBackCard : Claim7 := { stood := { row := wordsBackRow, standIns := [], harness := (true, "080db40af6cb14a29c4e69d881d42b7536786923b9854939d661c9c7dacb34c7"), looks := false }, kinds := [], alts := [], laidByText := true, laidKinds := [.data, .pinned], laidTests := true, laidLooks := .later }
def WordsBackCardSaid : Prop := Claim7.holds Tryd.pinned (.plain (OpenSpec.ofChange wordsBackSpec)) wordsBackCard

/-- THE TIED CARD OF 'platenlaw05.WordsSolid'. -/
def wordsSolidCard : Claim7 := { stood := { row := wordsSolidRow, standIns := [], harness := (true, "080db40af6cb14a29c4e69d881d42b7536786923b9854939d661c9c7dacb34c7"), looks := false }, kinds := [], alts := [], laidByText := true, laidKinds := [.data, .pinned], laidTests := true, laidLooks := .later }
def WordsSolidCardSaid : Prop := Claim7.holds Tryd.pinned (.plain (OpenSpec.ofChange wordsSolidSpec)) wordsSolidCard

/-- THE TIED CARD OF 'platenlaw05.WordsApart'. -/
def wordsApartCard : Claim7 := { stood := { row := wordsApartRow, standIns := [], harness := (true, "080db40af6cb14a29c4e69d881d42b7536786923b9854939d661c9c7dacb34c7"), looks := false }, kinds := [], alts := [], laidByText := true, laidKinds := [.data, .pinned], laidTests := true, laidLooks := .later }
def WordsApartCardSaid : Prop := Claim7.holds Tryd.pinned (.plain (OpenSpec.ofChange wordsApartSpec)) wordsApartCard

/-- THE TIED CARD OF 'platenlaw05.WordsThere'. -/
def wordsThereCard : Claim7 := { stood := { row := wordsThereRow, standIns := [], harness := (true, "080db40af6cb14a29c4e69d881d42b7536786923b9854939d661c9c7dacb34c7"), looks := false }, kinds := [], alts := [], laidByText := true, laidKinds := [.data, .pinned], laidTests := true, laidLooks := .later }
def WordsThereCardSaid : Prop := Claim7.holds Tryd.pinned (.plain (OpenSpec.ofChange wordsThereSpec)) wordsThereCard

/-- THE SECOND FORM's CARD OF 'platenlaw05.WordsClasses'. -/
def wordsClassesUptoCard : Claim7 := { stood := { row := wordsClassesUptoRow, standIns := [], harness := (true, "080db40af6cb14a29c4e69d881d42b7536786923b9854939d661c9c7dacb34c7"), looks := false }, kinds := [], alts := [], laidByText := true, laidKinds := [.data, .pinned], laidTests := true, laidLooks := .later }
def WordsClassesUptoCardSaid : Prop := Claim7.holds Tryd.pinned (.plain (OpenSpec.upto wordsClassesSpec)) wordsClassesUptoCard

/-- THE SECOND FORM's CARD OF 'platenlaw05.WordsRuns'. -/
def wordsRunsUptoCard : Claim7 := { stood := { row := wordsRunsUptoRow, standIns := [], harness := (true, "080db40af6cb14a29c4e69d881d42b7536786923b9854939d661c9c7dacb34c7"), looks := false }, kinds := [], alts := [], laidByText := true, laidKinds := [.data, .pinned], laidTests := true, laidLooks := .later }
def WordsRunsUptoCardSaid : Prop := Claim7.holds Tryd.pinned (.plain (OpenSpec.upto wordsRunsSpec)) wordsRunsUptoCard

/-- THE SECOND FORM's CARD OF 'platenlaw05.WordsLast'. -/
def wordsLastUptoCard : Claim7 := { stood := { row := wordsLastUptoRow, standIns := [], harness := (true, "080db40af6cb14a29c4e69d881d42b7536786923b9854939d661c9c7dacb34c7"), looks := false }, kinds := [], alts := [], laidByText := true, laidKinds := [.data, .pinned], laidTests := true, laidLooks := .later }
def WordsLastUptoCardSaid : Prop := Claim7.holds Tryd.pinned (.plain (OpenSpec.upto wordsLastSpec)) wordsLastUptoCard

/-- THE SECOND FORM's CARD OF 'platenlaw05.WordsForward'. -/
def wordsForwardUptoCard : Claim7 := { stood := { row := wordsForwardUptoRow, standIns := [], harness := (true, "080db40af6cb14a29c4e69d881d42b7536786923b9854939d661c9c7dacb34c7"), looks := false }, kinds := [], alts := [], laidByText := true, laidKinds := [.data, .pinned], laidTests := true, laidLooks := .later }
def WordsForwardUptoCardSaid : Prop := Claim7.holds Tryd.pinned (.plain (OpenSpec.upto wordsForwardSpec)) wordsForwardUptoCard

/-- THE SECOND FORM's CARD OF 'platenlaw05.WordsBack'. -/
def wordsBackUptoCard : Claim7 := { stood := { row := wordsBackUptoRow, standIns := [], harness := (true, "080db40af6cb14a29c4e69d881d42b7536786923b9854939d661c9c7dacb34c7"), looks := false }, kinds := [], alts := [], laidByText := true, laidKinds := [.data, .pinned], laidTests := true, laidLooks := .later }
def WordsBackUptoCardSaid : Prop := Claim7.holds Tryd.pinned (.plain (OpenSpec.upto wordsBackSpec)) wordsBackUptoCard

/-- THE SECOND FORM's CARD OF 'platenlaw05.WordsSolid'. -/
def wordsSolidUptoCard : Claim7 := { stood := { row := wordsSolidUptoRow, standIns := [], harness := (true, "080db40af6cb14a29c4e69d881d42b7536786923b9854939d661c9c7dacb34c7"), looks := false }, kinds := [], alts := [], laidByText := true, laidKinds := [.data, .pinned], laidTests := true, laidLooks := .later }
def WordsSolidUptoCardSaid : Prop := Claim7.holds Tryd.pinned (.plain (OpenSpec.upto wordsSolidSpec)) wordsSolidUptoCard

/-- THE SECOND FORM's CARD OF 'platenlaw05.WordsApart'. -/
def wordsApartUptoCard : Claim7 := { stood := { row := wordsApartUptoRow, standIns := [], harness := (true, "080db40af6cb14a29c4e69d881d42b7536786923b9854939d661c9c7dacb34c7"), looks := false }, kinds := [], alts := [], laidByText := true, laidKinds := [.data, .pinned], laidTests := true, laidLooks := .later }
def WordsApartUptoCardSaid : Prop := Claim7.holds Tryd.pinned (.plain (OpenSpec.upto wordsApartSpec)) wordsApartUptoCard

/-- THE SECOND FORM's CARD OF 'platenlaw05.WordsThere'. -/
def wordsThereUptoCard : Claim7 := { stood := { row := wordsThereUptoRow, standIns := [], harness := (true, "080db40af6cb14a29c4e69d881d42b7536786923b9854939d661c9c7dacb34c7"), looks := false }, kinds := [], alts := [], laidByText := true, laidKinds := [.data, .pinned], laidTests := true, laidLooks := .later }
def WordsThereUptoCardSaid : Prop := Claim7.holds Tryd.pinned (.plain (OpenSpec.upto wordsThereSpec)) wordsThereUptoCard
end Rows
end Go.Proofs.YtkdecmgockgmkaaDoor
