/-
  No cell of these rows narrows 'for every input' (looked for: loops, veiled, ifaces, maps, wideKeys, modest, calm, conditions, laid).
  DERIVED. THE GIVEN ROWS OF THIS SEAT. 6 by the template 'for every input the law returns true; each argument reads behind the call as it read before'; 0 by the template 'total and deterministic' (their statements: YtcljafgpjoagpaaTotals.lean).
  GIVEN WITH THE SEED: the statements are not yours to turn. If you find one false, say at which input.
  Laid BY PROGRAM, IN A SANDBOX (cutbox-rows.mjs): the forced cells as the released guide's own fill.sh prints them over the translation f8bc69e13977b00f… (all of the seat's roots in one cut). By AI agents, Wed Nov 11 2026. No macro, syntax, notation, axiom, sorry.
-/
import Derived.Test.YtcljafgpjoagpaaChecked
import GoSem.Claim
import GoSem.ClaimJoined
import GoSem.ClaimMapViews
import Derived.JoinedTies
import Derived.KernelRfl
namespace Go.Proofs.Ytcljafgpjoagpaa
/- THE CELL 'sum', in the pinned program and in every row, IS THE sha256 OF THE DUMP (.gsa) THAT YtcljafgpjoagpaaProg.lean LOADS. Nothing in Lean hashes anything: it is a label: what it is worth is what the hold of that sum in a sandbox is worth. -/
noncomputable def Try.pinned : Pinned := { name := "ytcljafgpjoagpaa", sum := "f8bc69e13977b00fd023e19bb1953065c6d83c0f5891915dd714004d1e79b4a7", checked := Try.checked }
namespace Rows
def none {H : Type} : Left H := { results := [], args := [] }

/-- 'platenlaw20.ObjectCount': WHATEVER THE INPUT: true; the input reads as it did. -/
def objectCountSpec : ChangeSpec := { name := "objectCount", fn := fun _ => fun
  | [d1, d2, d3] => { results := [.lit (.bool true)], args := [d1, d2, d3] }
  | _ => none }
def objectCountRow : OpenClaim := { program := "ytcljafgpjoagpaa", sum := "f8bc69e13977b00fd023e19bb1953065c6d83c0f5891915dd714004d1e79b4a7", func := "platen/platenlaw20.ObjectCount", spec := "objectCount", inPlace := ["internal/bytealg.Count", "internal/bytealg.IndexByte", "internal/bytealg.Index"], named := ["internal/bytealg.MaxLen"], apart := false }
def ObjectCountSaid : Prop := objectCountRow.holds Try.pinned (OpenSpec.ofChange objectCountSpec)

/-- ITS FALSE NEIGHBOUR: 'it returns false'. Refute it at one input. -/
def objectCountWrong : ChangeSpec := { name := "objectCount", fn := fun _ => fun
  | [d1, d2, d3] => { results := [.lit (.bool false)], args := [d1, d2, d3] }
  | _ => none }
def ObjectCountWrongFalsely : Prop := objectCountRow.holds Try.pinned (OpenSpec.ofChange objectCountWrong)

/-- 'platenlaw20.ObjectInner': WHATEVER THE INPUT: true; the input reads as it did. -/
def objectInnerSpec : ChangeSpec := { name := "objectInner", fn := fun _ => fun
  | [d1, d2, d3] => { results := [.lit (.bool true)], args := [d1, d2, d3] }
  | _ => none }
def objectInnerRow : OpenClaim := { program := "ytcljafgpjoagpaa", sum := "f8bc69e13977b00fd023e19bb1953065c6d83c0f5891915dd714004d1e79b4a7", func := "platen/platenlaw20.ObjectInner", spec := "objectInner", inPlace := ["internal/bytealg.Count", "internal/bytealg.IndexByte", "internal/bytealg.Index"], named := ["internal/bytealg.MaxLen"], apart := false }
def ObjectInnerSaid : Prop := objectInnerRow.holds Try.pinned (OpenSpec.ofChange objectInnerSpec)

/-- ITS FALSE NEIGHBOUR: 'it returns false'. Refute it at one input. -/
def objectInnerWrong : ChangeSpec := { name := "objectInner", fn := fun _ => fun
  | [d1, d2, d3] => { results := [.lit (.bool false)], args := [d1, d2, d3] }
  | _ => none }
def ObjectInnerWrongFalsely : Prop := objectInnerRow.holds Try.pinned (OpenSpec.ofChange objectInnerWrong)

/-- 'platenlaw20.ObjectRuns': WHATEVER THE INPUT: true; the input reads as it did. -/
def objectRunsSpec : ChangeSpec := { name := "objectRuns", fn := fun _ => fun
  | [d1, d2] => { results := [.lit (.bool true)], args := [d1, d2] }
  | _ => none }
def objectRunsRow : OpenClaim := { program := "ytcljafgpjoagpaa", sum := "f8bc69e13977b00fd023e19bb1953065c6d83c0f5891915dd714004d1e79b4a7", func := "platen/platenlaw20.ObjectRuns", spec := "objectRuns", inPlace := ["internal/bytealg.Count", "internal/bytealg.IndexByte", "internal/bytealg.Index"], named := ["internal/bytealg.MaxLen"], apart := false }
def ObjectRunsSaid : Prop := objectRunsRow.holds Try.pinned (OpenSpec.ofChange objectRunsSpec)

/-- ITS FALSE NEIGHBOUR: 'it returns false'. Refute it at one input. -/
def objectRunsWrong : ChangeSpec := { name := "objectRuns", fn := fun _ => fun
  | [d1, d2] => { results := [.lit (.bool false)], args := [d1, d2] }
  | _ => none }
def ObjectRunsWrongFalsely : Prop := objectRunsRow.holds Try.pinned (OpenSpec.ofChange objectRunsWrong)

/-- 'platenlaw20.ObjectParagraphs': WHATEVER THE INPUT: true; the input reads as it did. -/
def objectParagraphsSpec : ChangeSpec := { name := "objectParagraphs", fn := fun _ => fun
  | [d1, d2, d3] => { results := [.lit (.bool true)], args := [d1, d2, d3] }
  | _ => none }
def objectParagraphsRow : OpenClaim := { program := "ytcljafgpjoagpaa", sum := "f8bc69e13977b00fd023e19bb1953065c6d83c0f5891915dd714004d1e79b4a7", func := "platen/platenlaw20.ObjectParagraphs", spec := "objectParagraphs", inPlace := ["internal/bytealg.Count", "internal/bytealg.IndexByte", "internal/bytealg.Index"], named := ["internal/bytealg.MaxLen"], apart := false }
def ObjectParagraphsSaid : Prop := objectParagraphsRow.holds Try.pinned (OpenSpec.ofChange objectParagraphsSpec)

/-- ITS FALSE NEIGHBOUR: 'it returns false'. Refute it at one input. -/
def objectParagraphsWrong : ChangeSpec := { name := "objectParagraphs", fn := fun _ => fun
  | [d1, d2, d3] => { results := [.lit (.bool false)], args := [d1, d2, d3] }
  | _ => none }
def ObjectParagraphsWrongFalsely : Prop := objectParagraphsRow.holds Try.pinned (OpenSpec.ofChange objectParagraphsWrong)

/-- 'platenlaw20.ObjectIndents': WHATEVER THE INPUT: true; the input reads as it did. -/
def objectIndentsSpec : ChangeSpec := { name := "objectIndents", fn := fun _ => fun
  | [d1, d2] => { results := [.lit (.bool true)], args := [d1, d2] }
  | _ => none }
def objectIndentsRow : OpenClaim := { program := "ytcljafgpjoagpaa", sum := "f8bc69e13977b00fd023e19bb1953065c6d83c0f5891915dd714004d1e79b4a7", func := "platen/platenlaw20.ObjectIndents", spec := "objectIndents", inPlace := ["internal/bytealg.Count", "internal/bytealg.IndexByte", "internal/bytealg.Index"], named := ["internal/bytealg.MaxLen"], apart := false }
def ObjectIndentsSaid : Prop := objectIndentsRow.holds Try.pinned (OpenSpec.ofChange objectIndentsSpec)

/-- ITS FALSE NEIGHBOUR: 'it returns false'. Refute it at one input. -/
def objectIndentsWrong : ChangeSpec := { name := "objectIndents", fn := fun _ => fun
  | [d1, d2] => { results := [.lit (.bool false)], args := [d1, d2] }
  | _ => none }
def ObjectIndentsWrongFalsely : Prop := objectIndentsRow.holds Try.pinned (OpenSpec.ofChange objectIndentsWrong)

/-- 'platenlaw20.ObjectLines': WHATEVER THE INPUT: true; the input reads as it did. -/
def objectLinesSpec : ChangeSpec := { name := "objectLines", fn := fun _ => fun
  | [d1, d2, d3] => { results := [.lit (.bool true)], args := [d1, d2, d3] }
  | _ => none }
def objectLinesRow : OpenClaim := { program := "ytcljafgpjoagpaa", sum := "f8bc69e13977b00fd023e19bb1953065c6d83c0f5891915dd714004d1e79b4a7", func := "platen/platenlaw20.ObjectLines", spec := "objectLines", inPlace := ["internal/bytealg.Count", "internal/bytealg.IndexByte", "internal/bytealg.Index"], named := ["internal/bytealg.MaxLen"], apart := false }
def ObjectLinesSaid : Prop := objectLinesRow.holds Try.pinned (OpenSpec.ofChange objectLinesSpec)

/-- ITS FALSE NEIGHBOUR: 'it returns false'. Refute it at one input. -/
def objectLinesWrong : ChangeSpec := { name := "objectLines", fn := fun _ => fun
  | [d1, d2, d3] => { results := [.lit (.bool false)], args := [d1, d2, d3] }
  | _ => none }
def ObjectLinesWrongFalsely : Prop := objectLinesRow.holds Try.pinned (OpenSpec.ofChange objectLinesWrong)

/- THE SECOND FORM. 'bulk': how many values and letters a reading holds, each counted each time it is reached (what is shared counts as often as it is met; a slice's spare places count too). A statement '..UptoSaid' is the law's where the arguments, and the package variables that the reading takes, are together of bulk at most 1048576: NARROWER than '..Said'. Prove '..Said' where nothing that the law and all that it calls make is longer than what came in: it says more and counts as full. Else prove '..UptoSaid'. A law counts once. -/
mutual
def uptoBulk {H : Type} : DataW H → Nat
  | .lit (.string bytes) => bytes.length + 1
  | .lit _ => 1
  | .nil => 1
  | .ptr d => uptoBulk d + 1
  | .slice elems spare => uptoBulkAll elems + uptoBulkAll spare + 1
  | .agg parts => uptoBulkAll parts + 1
  | .iface _ d => uptoBulk d + 1
  | .map entries => uptoBulkEntries entries + 1
  | .held _ => 1
def uptoBulkAll {H : Type} : List (DataW H) → Nat
  | [] => 0
  | d :: r => uptoBulk d + uptoBulkAll r
def uptoBulkEntries {H : Type} : List (Lit × DataW H) → Nat
  | [] => 0
  | x :: r => uptoBulkEntry x + uptoBulkEntries r
def uptoBulkEntry {H : Type} : Lit × DataW H → Nat
  | (.string bytes, d) => bytes.length + uptoBulk d + 1
  | (_, d) => uptoBulk d + 1
 end
def uptoSmall : (H : Type) → List (DataW H) → Bool := fun _ ds => decide (uptoBulkAll ds ≤ 1048576)
def OpenSpec.upto (s : _root_.Go.ChangeSpec) : _root_.Go.OpenSpec := { _root_.Go.OpenSpec.ofChange s with cond := some uptoSmall }

/-- 'platenlaw20.ObjectCount', WHERE WHAT IT READS IS OF BULK AT MOST 1048576: true; the input reads as it did. -/
def objectCountUptoRow : OpenClaim := { program := "ytcljafgpjoagpaa", sum := "f8bc69e13977b00fd023e19bb1953065c6d83c0f5891915dd714004d1e79b4a7", func := "platen/platenlaw20.ObjectCount", spec := "objectCount", inPlace := ["internal/bytealg.Count", "internal/bytealg.IndexByte", "internal/bytealg.Index"], named := ["internal/bytealg.MaxLen"], apart := false, narrowed := true }
def ObjectCountUptoSaid : Prop := objectCountUptoRow.holds Try.pinned (OpenSpec.upto objectCountSpec)

/-- 'platenlaw20.ObjectInner', WHERE WHAT IT READS IS OF BULK AT MOST 1048576: true; the input reads as it did. -/
def objectInnerUptoRow : OpenClaim := { program := "ytcljafgpjoagpaa", sum := "f8bc69e13977b00fd023e19bb1953065c6d83c0f5891915dd714004d1e79b4a7", func := "platen/platenlaw20.ObjectInner", spec := "objectInner", inPlace := ["internal/bytealg.Count", "internal/bytealg.IndexByte", "internal/bytealg.Index"], named := ["internal/bytealg.MaxLen"], apart := false, narrowed := true }
def ObjectInnerUptoSaid : Prop := objectInnerUptoRow.holds Try.pinned (OpenSpec.upto objectInnerSpec)

/-- 'platenlaw20.ObjectRuns', WHERE WHAT IT READS IS OF BULK AT MOST 1048576: true; the input reads as it did. -/
def objectRunsUptoRow : OpenClaim := { program := "ytcljafgpjoagpaa", sum := "f8bc69e13977b00fd023e19bb1953065c6d83c0f5891915dd714004d1e79b4a7", func := "platen/platenlaw20.ObjectRuns", spec := "objectRuns", inPlace := ["internal/bytealg.Count", "internal/bytealg.IndexByte", "internal/bytealg.Index"], named := ["internal/bytealg.MaxLen"], apart := false, narrowed := true }
def ObjectRunsUptoSaid : Prop := objectRunsUptoRow.holds Try.pinned (OpenSpec.upto objectRunsSpec)

/-- 'platenlaw20.ObjectParagraphs', WHERE WHAT IT READS IS OF BULK AT MOST 1048576: true; the input reads as it did. -/
def objectParagraphsUptoRow : OpenClaim := { program := "ytcljafgpjoagpaa", sum := "f8bc69e13977b00fd023e19bb1953065c6d83c0f5891915dd714004d1e79b4a7", func := "platen/platenlaw20.ObjectParagraphs", spec := "objectParagraphs", inPlace := ["internal/bytealg.Count", "internal/bytealg.IndexByte", "internal/bytealg.Index"], named := ["internal/bytealg.MaxLen"], apart := false, narrowed := true }
def ObjectParagraphsUptoSaid : Prop := objectParagraphsUptoRow.holds Try.pinned (OpenSpec.upto objectParagraphsSpec)

/-- 'platenlaw20.ObjectIndents', WHERE WHAT IT READS IS OF BULK AT MOST 1048576: true; the input reads as it did. -/
def objectIndentsUptoRow : OpenClaim := { program := "ytcljafgpjoagpaa", sum := "f8bc69e13977b00fd023e19bb1953065c6d83c0f5891915dd714004d1e79b4a7", func := "platen/platenlaw20.ObjectIndents", spec := "objectIndents", inPlace := ["internal/bytealg.Count", "internal/bytealg.IndexByte", "internal/bytealg.Index"], named := ["internal/bytealg.MaxLen"], apart := false, narrowed := true }
def ObjectIndentsUptoSaid : Prop := objectIndentsUptoRow.holds Try.pinned (OpenSpec.upto objectIndentsSpec)

/-- 'platenlaw20.ObjectLines', WHERE WHAT IT READS IS OF BULK AT MOST 1048576: true; the input reads as it did. -/
def objectLinesUptoRow : OpenClaim := { program := "ytcljafgpjoagpaa", sum := "f8bc69e13977b00fd023e19bb1953065c6d83c0f5891915dd714004d1e79b4a7", func := "platen/platenlaw20.ObjectLines", spec := "objectLines", inPlace := ["internal/bytealg.Count", "internal/bytealg.IndexByte", "internal/bytealg.Index"], named := ["internal/bytealg.MaxLen"], apart := false, narrowed := true }
def ObjectLinesUptoSaid : Prop := objectLinesUptoRow.holds Try.pinned (OpenSpec.upto objectLinesSpec)

end Rows
end Go.Proofs.Ytcljafgpjoagpaa
