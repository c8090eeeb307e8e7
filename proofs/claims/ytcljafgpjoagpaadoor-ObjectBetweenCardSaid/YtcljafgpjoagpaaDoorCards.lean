/-
  DERIVED. GIVEN WITH THE SEED: THE CARDS: each row of YtcljafgpjoagpaaDoorRows.lean that lists a variable, with what it lists TIED to the program's text (the seventh form; the later family's looks); each row that meets fmt, with fmt's text TOLD by the authors' own Lean function (tested against real Go, not proved from fmt's source: count such statements apart). THE CARD IS WHAT COUNTS. Prove the row's statement (the work); the ties are given (YtcljafgpjoagpaaDoorTie.lean); close each card by the builder's one call (the guide's Derived/Test/ToyasCard.lean, 'card_holds'). Laid BY PROGRAM, IN A SANDBOX (cutbox-door.mjs). By AI agents, Wed Nov 11 2026. No macro, syntax, notation, axiom, sorry.
-/
import Derived.Test.YtcljafgpjoagpaaDoorRows
import GoSem.ClaimSeven
namespace Go.Proofs.YtcljafgpjoagpaaDoor
namespace Rows

/-- THE TIED CARD OF 'platenlaw20.ObjectBetween'. -/
def objectBetweenCard : Claim7 := { stood := { row := objectBetweenRow, standIns := [], harness := (true, "705678a89a6e6a74c328f569bf3c0ae6709e94ae6e87ad4533fc7065f83b13f6"), looks := false }, kinds := [], alts := [], laidByText := true, laidKinds := [.data, .pinned], laidTests := true, laidLooks := .later }
def ObjectBetweenCardSaid : Prop := Claim7.holds Tryd.pinned (.plain (OpenSpec.ofChange objectBetweenSpec)) objectBetweenCard

/-- THE SECOND FORM's CARD OF 'platenlaw20.ObjectBetween'. -/
def objectBetweenUptoCard : Claim7 := { stood := { row := objectBetweenUptoRow, standIns := [], harness := (true, "705678a89a6e6a74c328f569bf3c0ae6709e94ae6e87ad4533fc7065f83b13f6"), looks := false }, kinds := [], alts := [], laidByText := true, laidKinds := [.data, .pinned], laidTests := true, laidLooks := .later }
def ObjectBetweenUptoCardSaid : Prop := Claim7.holds Tryd.pinned (.plain (OpenSpec.upto objectBetweenSpec)) objectBetweenUptoCard
end Rows
end Go.Proofs.YtcljafgpjoagpaaDoor
