/-
  No cell of these rows narrows 'for every input' (looked for: loops, veiled, ifaces, maps, wideKeys, modest, calm, conditions, laid).
  DERIVED. THE GIVEN ROWS OF THIS SEAT. 6 by the template 'for every input the law returns true; each argument reads behind the call as it read before'; 0 by the template 'total and deterministic' (their statements: YtemmalkgjfdlcaaTotals.lean).
  GIVEN WITH THE SEED: the statements are not yours to turn. If you find one false, say at which input.
  Laid BY PROGRAM, IN A SANDBOX (cutbox-rows.mjs): the forced cells as the released guide's own fill.sh prints them over the translation 5820b8fc615942bb… (all of the seat's roots in one cut). By AI agents, Wed Nov 11 2026. No macro, syntax, notation, axiom, sorry.
-/
import Derived.Test.YtemmalkgjfdlcaaChecked
import GoSem.Claim
import GoSem.ClaimJoined
import GoSem.ClaimMapViews
import Derived.JoinedTies
import Derived.KernelRfl
namespace Go.Proofs.Ytemmalkgjfdlcaa
/- THE CELL 'sum', in the pinned program and in every row, IS THE sha256 OF THE DUMP (.gsa) THAT YtemmalkgjfdlcaaProg.lean LOADS. Nothing in Lean hashes anything: it is a label: what it is worth is what the hold of that sum in a sandbox is worth. -/
noncomputable def Try.pinned : Pinned := { name := "ytemmalkgjfdlcaa", sum := "5820b8fc615942bbbb3cf350b61feea6c91baa1dec0584b8a6c584d5ec269723", checked := Try.checked }
namespace Rows
def none {H : Type} : Left H := { results := [], args := [] }

/-- 'platenlaw18.KeepPlaces': WHATEVER THE INPUT: true; the input reads as it did. -/
def keepPlacesSpec : ChangeSpec := { name := "keepPlaces", fn := fun _ => fun
  | [d1, d2, d3, d4] => { results := [.lit (.bool true)], args := [d1, d2, d3, d4] }
  | _ => none }
def keepPlacesRow : OpenClaim := { program := "ytemmalkgjfdlcaa", sum := "5820b8fc615942bbbb3cf350b61feea6c91baa1dec0584b8a6c584d5ec269723", func := "platen/platenlaw18.KeepPlaces", spec := "keepPlaces", apart := false }
def KeepPlacesSaid : Prop := keepPlacesRow.holds Try.pinned (OpenSpec.ofChange keepPlacesSpec)

/-- ITS FALSE NEIGHBOUR: 'it returns false'. Refute it at one input. -/
def keepPlacesWrong : ChangeSpec := { name := "keepPlaces", fn := fun _ => fun
  | [d1, d2, d3, d4] => { results := [.lit (.bool false)], args := [d1, d2, d3, d4] }
  | _ => none }
def KeepPlacesWrongFalsely : Prop := keepPlacesRow.holds Try.pinned (OpenSpec.ofChange keepPlacesWrong)

/-- 'platenlaw18.KeepSolid': WHATEVER THE INPUT: true; the input reads as it did. -/
def keepSolidSpec : ChangeSpec := { name := "keepSolid", fn := fun _ => fun
  | [d1, d2, d3] => { results := [.lit (.bool true)], args := [d1, d2, d3] }
  | _ => none }
def keepSolidRow : OpenClaim := { program := "ytemmalkgjfdlcaa", sum := "5820b8fc615942bbbb3cf350b61feea6c91baa1dec0584b8a6c584d5ec269723", func := "platen/platenlaw18.KeepSolid", spec := "keepSolid", apart := false }
def KeepSolidSaid : Prop := keepSolidRow.holds Try.pinned (OpenSpec.ofChange keepSolidSpec)

/-- ITS FALSE NEIGHBOUR: 'it returns false'. Refute it at one input. -/
def keepSolidWrong : ChangeSpec := { name := "keepSolid", fn := fun _ => fun
  | [d1, d2, d3] => { results := [.lit (.bool false)], args := [d1, d2, d3] }
  | _ => none }
def KeepSolidWrongFalsely : Prop := keepSolidRow.holds Try.pinned (OpenSpec.ofChange keepSolidWrong)

/-- 'platenlaw18.KeepBytes': WHATEVER THE INPUT: true; the input reads as it did. -/
def keepBytesSpec : ChangeSpec := { name := "keepBytes", fn := fun _ => fun
  | [d1, d2, d3] => { results := [.lit (.bool true)], args := [d1, d2, d3] }
  | _ => none }
def keepBytesRow : OpenClaim := { program := "ytemmalkgjfdlcaa", sum := "5820b8fc615942bbbb3cf350b61feea6c91baa1dec0584b8a6c584d5ec269723", func := "platen/platenlaw18.KeepBytes", spec := "keepBytes", apart := false }
def KeepBytesSaid : Prop := keepBytesRow.holds Try.pinned (OpenSpec.ofChange keepBytesSpec)

/-- ITS FALSE NEIGHBOUR: 'it returns false'. Refute it at one input. -/
def keepBytesWrong : ChangeSpec := { name := "keepBytes", fn := fun _ => fun
  | [d1, d2, d3] => { results := [.lit (.bool false)], args := [d1, d2, d3] }
  | _ => none }
def KeepBytesWrongFalsely : Prop := keepBytesRow.holds Try.pinned (OpenSpec.ofChange keepBytesWrong)

/-- 'platenlaw18.KeepThere': WHATEVER THE INPUT: true; the input reads as it did. -/
def keepThereSpec : ChangeSpec := { name := "keepThere", fn := fun _ => fun
  | [d1, d2, d3] => { results := [.lit (.bool true)], args := [d1, d2, d3] }
  | _ => none }
def keepThereRow : OpenClaim := { program := "ytemmalkgjfdlcaa", sum := "5820b8fc615942bbbb3cf350b61feea6c91baa1dec0584b8a6c584d5ec269723", func := "platen/platenlaw18.KeepThere", spec := "keepThere", apart := false }
def KeepThereSaid : Prop := keepThereRow.holds Try.pinned (OpenSpec.ofChange keepThereSpec)

/-- ITS FALSE NEIGHBOUR: 'it returns false'. Refute it at one input. -/
def keepThereWrong : ChangeSpec := { name := "keepThere", fn := fun _ => fun
  | [d1, d2, d3] => { results := [.lit (.bool false)], args := [d1, d2, d3] }
  | _ => none }
def KeepThereWrongFalsely : Prop := keepThereRow.holds Try.pinned (OpenSpec.ofChange keepThereWrong)

/-- 'platenlaw18.KeepOrder': WHATEVER THE INPUT: true; the input reads as it did. -/
def keepOrderSpec : ChangeSpec := { name := "keepOrder", fn := fun _ => fun
  | [d1, d2, d3, d4] => { results := [.lit (.bool true)], args := [d1, d2, d3, d4] }
  | _ => none }
def keepOrderRow : OpenClaim := { program := "ytemmalkgjfdlcaa", sum := "5820b8fc615942bbbb3cf350b61feea6c91baa1dec0584b8a6c584d5ec269723", func := "platen/platenlaw18.KeepOrder", spec := "keepOrder", apart := false }
def KeepOrderSaid : Prop := keepOrderRow.holds Try.pinned (OpenSpec.ofChange keepOrderSpec)

/-- ITS FALSE NEIGHBOUR: 'it returns false'. Refute it at one input. -/
def keepOrderWrong : ChangeSpec := { name := "keepOrder", fn := fun _ => fun
  | [d1, d2, d3, d4] => { results := [.lit (.bool false)], args := [d1, d2, d3, d4] }
  | _ => none }
def KeepOrderWrongFalsely : Prop := keepOrderRow.holds Try.pinned (OpenSpec.ofChange keepOrderWrong)

/-- 'platenlaw18.KeepAlike': WHATEVER THE INPUT: true; the input reads as it did. -/
def keepAlikeSpec : ChangeSpec := { name := "keepAlike", fn := fun _ => fun
  | [d1, d2] => { results := [.lit (.bool true)], args := [d1, d2] }
  | _ => none }
def keepAlikeRow : OpenClaim := { program := "ytemmalkgjfdlcaa", sum := "5820b8fc615942bbbb3cf350b61feea6c91baa1dec0584b8a6c584d5ec269723", func := "platen/platenlaw18.KeepAlike", spec := "keepAlike", apart := false }
def KeepAlikeSaid : Prop := keepAlikeRow.holds Try.pinned (OpenSpec.ofChange keepAlikeSpec)

/-- ITS FALSE NEIGHBOUR: 'it returns false'. Refute it at one input. -/
def keepAlikeWrong : ChangeSpec := { name := "keepAlike", fn := fun _ => fun
  | [d1, d2] => { results := [.lit (.bool false)], args := [d1, d2] }
  | _ => none }
def KeepAlikeWrongFalsely : Prop := keepAlikeRow.holds Try.pinned (OpenSpec.ofChange keepAlikeWrong)

/- THE SECOND FORM. 'bulk': how many values and letters a reading holds, each counted each time it is reached (what is shared counts as often as it is met; a slice's spare places count too). A statement '..UptoSaid' is the law's where the arguments, and the package variables that the reading takes, are together of bulk at most 1048576: NARROWER than '..Said'. Prove '..Said' where nothing that the law and all that it calls make is longer than what came in: it says more and counts as full. Else prove '..UptoSaid'. A law counts once. -/
mutual
def uptoBulk {H : Type} : DataW H → Nat
  | .lit (.string bytes) => bytes.length + 1
  | .lit _ => 1
  | .nil => 1
  | .ptr d => uptoBulk d + 1
  | .slice elems spare => uptoBulkAll elems + uptoBulkAll spare + 1
  | .agg parts => uptoBulkAll parts + 1
  | .iface _ d => uptoBulk d + 1
  | .map entries => uptoBulkEntries entries + 1
  | .held _ => 1
def uptoBulkAll {H : Type} : List (DataW H) → Nat
  | [] => 0
  | d :: r => uptoBulk d + uptoBulkAll r
def uptoBulkEntries {H : Type} : List (Lit × DataW H) → Nat
  | [] => 0
  | x :: r => uptoBulkEntry x + uptoBulkEntries r
def uptoBulkEntry {H : Type} : Lit × DataW H → Nat
  | (.string bytes, d) => bytes.length + uptoBulk d + 1
  | (_, d) => uptoBulk d + 1
 end
def uptoSmall : (H : Type) → List (DataW H) → Bool := fun _ ds => decide (uptoBulkAll ds ≤ 1048576)
def OpenSpec.upto (s : _root_.Go.ChangeSpec) : _root_.Go.OpenSpec := { _root_.Go.OpenSpec.ofChange s with cond := some uptoSmall }

/-- 'platenlaw18.KeepPlaces', WHERE WHAT IT READS IS OF BULK AT MOST 1048576: true; the input reads as it did. -/
def keepPlacesUptoRow : OpenClaim := { program := "ytemmalkgjfdlcaa", sum := "5820b8fc615942bbbb3cf350b61feea6c91baa1dec0584b8a6c584d5ec269723", func := "platen/platenlaw18.KeepPlaces", spec := "keepPlaces", apart := false, narrowed := true }
def KeepPlacesUptoSaid : Prop := keepPlacesUptoRow.holds Try.pinned (OpenSpec.upto keepPlacesSpec)

/-- 'platenlaw18.KeepSolid', WHERE WHAT IT READS IS OF BULK AT MOST 1048576: true; the input reads as it did. -/
def keepSolidUptoRow : OpenClaim := { program := "ytemmalkgjfdlcaa", sum := "5820b8fc615942bbbb3cf350b61feea6c91baa1dec0584b8a6c584d5ec269723", func := "platen/platenlaw18.KeepSolid", spec := "keepSolid", apart := false, narrowed := true }
def KeepSolidUptoSaid : Prop := keepSolidUptoRow.holds Try.pinned (OpenSpec.upto keepSolidSpec)

/-- 'platenlaw18.KeepBytes', WHERE WHAT IT READS IS OF BULK AT MOST 1048576: true; the input reads as it did. -/
def keepBytesUptoRow : OpenClaim := { program := "ytemmalkgjfdlcaa", sum := "5820b8fc615942bbbb3cf350b61feea6c91baa1dec0584b8a6c584d5ec269723", func := "platen/platenlaw18.KeepBytes", spec := "keepBytes", apart := false, narrowed := true }
def KeepBytesUptoSaid : Prop := keepBytesUptoRow.holds Try.pinned (OpenSpec.upto keepBytesSpec)

/-- 'platenlaw18.KeepThere', WHERE WHAT IT READS IS OF BULK AT MOST 1048576: true; the input reads as it did. -/
def keepThereUptoRow : OpenClaim := { program := "ytemmalkgjfdlcaa", sum := "5820b8fc615942bbbb3cf350b61feea6c91baa1dec0584b8a6c584d5ec269723", func := "platen/platenlaw18.KeepThere", spec := "keepThere", apart := false, narrowed := true }
def KeepThereUptoSaid : Prop := keepThereUptoRow.holds Try.pinned (OpenSpec.upto keepThereSpec)

/-- 'platenlaw18.KeepOrder', WHERE WHAT IT READS IS OF BULK AT MOST 1048576: true; the input reads as it did. -/
def keepOrderUptoRow : OpenClaim := { program := "ytemmalkgjfdlcaa", sum := "5820b8fc615942bbbb3cf350b61feea6c91baa1dec0584b8a6c584d5ec269723", func := "platen/platenlaw18.KeepOrder", spec := "keepOrder", apart := false, narrowed := true }
def KeepOrderUptoSaid : Prop := keepOrderUptoRow.holds Try.pinned (OpenSpec.upto keepOrderSpec)

/-- 'platenlaw18.KeepAlike', WHERE WHAT IT READS IS OF BULK AT MOST 1048576: true; the input reads as it did. -/
def keepAlikeUptoRow : OpenClaim := { program := "ytemmalkgjfdlcaa", sum := "5820b8fc615942bbbb3cf350b61feea6c91baa1dec0584b8a6c584d5ec269723", func := "platen/platenlaw18.KeepAlike", spec := "keepAlike", apart := false, narrowed := true }
def KeepAlikeUptoSaid : Prop := keepAlikeUptoRow.holds Try.pinned (OpenSpec.upto keepAlikeSpec)

end Rows
end Go.Proofs.Ytemmalkgjfdlcaa
