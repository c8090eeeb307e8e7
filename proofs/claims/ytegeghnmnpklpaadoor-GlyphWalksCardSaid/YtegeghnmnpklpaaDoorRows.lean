/-
  NARROWER THAN 'FOR EVERY INPUT', by the rows' own cells (each row's printed sentence says how): GlyphNexts: laid · GlyphPrevs: laid · GlyphFloors: laid · GlyphWalks: laid · GlyphJoins: laid · GlyphSteps: laid · GlyphWides: laid · GlyphBlanks: laid · GlyphAts: laid · GlyphLeast: laid · GlyphFills: laid.
  DERIVED. THE GIVEN ROWS OF THIS SEAT. 11 by the template 'for every input the law returns true; each argument reads behind the call as it read before'; 0 by the template 'total and deterministic' (their statements: YtegeghnmnpklpaaDoorTotals.lean).
  GIVEN WITH THE SEED: the statements are not yours to turn. If you find one false, say at which input.
  Laid BY PROGRAM, IN A SANDBOX (cutbox-rows.mjs): the forced cells as the released guide's own fill.sh prints them over the translation 60bb0cdef0ce8084… (all of the seat's roots in one cut). By AI agents, Wed Nov 11 2026. No macro, syntax, notation, axiom, sorry.
-/
import Derived.Test.YtegeghnmnpklpaaDoorChecked
import GoSem.PinnedTables
import GoSem.Claim
import GoSem.ClaimJoined
import GoSem.ClaimMapViews
import Derived.JoinedTies
import Derived.KernelRfl
namespace Go.Proofs.YtegeghnmnpklpaaDoor
/- THE CELL 'sum', in the pinned program and in every row, IS THE sha256 OF THE DUMP (.gsa) THAT YtegeghnmnpklpaaDoorProg.lean LOADS. Nothing in Lean hashes anything: it is a label: what it is worth is what the hold of that sum in a sandbox is worth. -/
noncomputable def Tryd.pinned : Pinned := { name := "ytegeghnmnpklpaadoor", sum := "60bb0cdef0ce8084c13dccc2ec3070dd349390a9b781e58adcbc3a870ca0339a", checked := Tryd.checked }
namespace Rows
def none {H : Type} : Left H := { results := [], args := [] }

/- WHAT THE LISTED PACKAGE-LEVEL VARIABLES READ AS WHEN THE CALL BEGINS. Each datum BY PROGRAM (the guide's laid-datum.mjs) off the statement by which the dump's own 'gosem.cut.vars' lays the variable. In a bare row this is a premise. The card (YtegeghnmnpklpaaDoorCards.lean) ties it to the program's text. -/
def laid_unicode_utf8_acceptRanges {H : Type} : DataW H := .agg [.agg [.lit (.int .u8 128), .lit (.int .u8 191)], .agg [.lit (.int .u8 160), .lit (.int .u8 191)], .agg [.lit (.int .u8 128), .lit (.int .u8 159)], .agg [.lit (.int .u8 144), .lit (.int .u8 191)], .agg [.lit (.int .u8 128), .lit (.int .u8 143)], .agg [.lit (.int .u8 0), .lit (.int .u8 0)], .agg [.lit (.int .u8 0), .lit (.int .u8 0)], .agg [.lit (.int .u8 0), .lit (.int .u8 0)], .agg [.lit (.int .u8 0), .lit (.int .u8 0)], .agg [.lit (.int .u8 0), .lit (.int .u8 0)], .agg [.lit (.int .u8 0), .lit (.int .u8 0)], .agg [.lit (.int .u8 0), .lit (.int .u8 0)], .agg [.lit (.int .u8 0), .lit (.int .u8 0)], .agg [.lit (.int .u8 0), .lit (.int .u8 0)], .agg [.lit (.int .u8 0), .lit (.int .u8 0)], .agg [.lit (.int .u8 0), .lit (.int .u8 0)]]
/-- One of Go's own tables, pinned by name: the form's constant. -/
def laid_unicode_utf8_first : DataW Unit := Go.Pinned.utf8First

/-- 'platenlaw01.GlyphNexts': WHATEVER THE INPUT: true; the input reads as it did. -/
def glyphNextsSpec : ChangeSpec := { name := "glyphNexts", fn := fun _ => fun
  | [d1, d2] => { results := [.lit (.bool true)], args := [d1, d2] }
  | _ => none }
def glyphNextsRow : OpenClaim := { program := "ytegeghnmnpklpaadoor", sum := "60bb0cdef0ce8084c13dccc2ec3070dd349390a9b781e58adcbc3a870ca0339a", func := "platen/platenlaw01.GlyphNexts", spec := "glyphNexts", named := ["unicode/utf8.first", "unicode/utf8.acceptRanges"], apart := false, laid := [("unicode/utf8.acceptRanges", laid_unicode_utf8_acceptRanges), ("unicode/utf8.first", laid_unicode_utf8_first)] }
def GlyphNextsSaid : Prop := glyphNextsRow.holds Tryd.pinned (OpenSpec.ofChange glyphNextsSpec)

/-- ITS FALSE NEIGHBOUR: 'it returns false'. Refute it at one input. -/
def glyphNextsWrong : ChangeSpec := { name := "glyphNexts", fn := fun _ => fun
  | [d1, d2] => { results := [.lit (.bool false)], args := [d1, d2] }
  | _ => none }
def GlyphNextsWrongFalsely : Prop := glyphNextsRow.holds Tryd.pinned (OpenSpec.ofChange glyphNextsWrong)

/-- 'platenlaw01.GlyphPrevs': WHATEVER THE INPUT: true; the input reads as it did. -/
def glyphPrevsSpec : ChangeSpec := { name := "glyphPrevs", fn := fun _ => fun
  | [d1, d2] => { results := [.lit (.bool true)], args := [d1, d2] }
  | _ => none }
def glyphPrevsRow : OpenClaim := { program := "ytegeghnmnpklpaadoor", sum := "60bb0cdef0ce8084c13dccc2ec3070dd349390a9b781e58adcbc3a870ca0339a", func := "platen/platenlaw01.GlyphPrevs", spec := "glyphPrevs", named := ["unicode/utf8.first", "unicode/utf8.acceptRanges"], apart := false, laid := [("unicode/utf8.acceptRanges", laid_unicode_utf8_acceptRanges), ("unicode/utf8.first", laid_unicode_utf8_first)] }
def GlyphPrevsSaid : Prop := glyphPrevsRow.holds Tryd.pinned (OpenSpec.ofChange glyphPrevsSpec)

/-- ITS FALSE NEIGHBOUR: 'it returns false'. Refute it at one input. -/
def glyphPrevsWrong : ChangeSpec := { name := "glyphPrevs", fn := fun _ => fun
  | [d1, d2] => { results := [.lit (.bool false)], args := [d1, d2] }
  | _ => none }
def GlyphPrevsWrongFalsely : Prop := glyphPrevsRow.holds Tryd.pinned (OpenSpec.ofChange glyphPrevsWrong)

/-- 'platenlaw01.GlyphFloors': WHATEVER THE INPUT: true; the input reads as it did. -/
def glyphFloorsSpec : ChangeSpec := { name := "glyphFloors", fn := fun _ => fun
  | [d1, d2] => { results := [.lit (.bool true)], args := [d1, d2] }
  | _ => none }
def glyphFloorsRow : OpenClaim := { program := "ytegeghnmnpklpaadoor", sum := "60bb0cdef0ce8084c13dccc2ec3070dd349390a9b781e58adcbc3a870ca0339a", func := "platen/platenlaw01.GlyphFloors", spec := "glyphFloors", named := ["unicode/utf8.first", "unicode/utf8.acceptRanges"], apart := false, laid := [("unicode/utf8.acceptRanges", laid_unicode_utf8_acceptRanges), ("unicode/utf8.first", laid_unicode_utf8_first)] }
def GlyphFloorsSaid : Prop := glyphFloorsRow.holds Tryd.pinned (OpenSpec.ofChange glyphFloorsSpec)

/-- ITS FALSE NEIGHBOUR: 'it returns false'. Refute it at one input. -/
def glyphFloorsWrong : ChangeSpec := { name := "glyphFloors", fn := fun _ => fun
  | [d1, d2] => { results := [.lit (.bool false)], args := [d1, d2] }
  | _ => none }
def GlyphFloorsWrongFalsely : Prop := glyphFloorsRow.holds Tryd.pinned (OpenSpec.ofChange glyphFloorsWrong)

/-- 'platenlaw01.GlyphWalks': WHATEVER THE INPUT: true; the input reads as it did. -/
def glyphWalksSpec : ChangeSpec := { name := "glyphWalks", fn := fun _ => fun
  | [d] => { results := [.lit (.bool true)], args := [d] }
  | _ => none }
def glyphWalksRow : OpenClaim := { program := "ytegeghnmnpklpaadoor", sum := "60bb0cdef0ce8084c13dccc2ec3070dd349390a9b781e58adcbc3a870ca0339a", func := "platen/platenlaw01.GlyphWalks", spec := "glyphWalks", named := ["unicode/utf8.first", "unicode/utf8.acceptRanges"], apart := false, laid := [("unicode/utf8.acceptRanges", laid_unicode_utf8_acceptRanges), ("unicode/utf8.first", laid_unicode_utf8_first)] }
def GlyphWalksSaid : Prop := glyphWalksRow.holds Tryd.pinned (OpenSpec.ofChange glyphWalksSpec)

/-- ITS FALSE NEIGHBOUR: 'it returns false'. Refute it at one input. -/
def glyphWalksWrong : ChangeSpec := { name := "glyphWalks", fn := fun _ => fun
  | [d] => { results := [.lit (.bool false)], args := [d] }
  | _ => none }
def GlyphWalksWrongFalsely : Prop := glyphWalksRow.holds Tryd.pinned (OpenSpec.ofChange glyphWalksWrong)

/-- 'platenlaw01.GlyphJoins': WHATEVER THE INPUT: true; the input reads as it did. -/
def glyphJoinsSpec : ChangeSpec := { name := "glyphJoins", fn := fun _ => fun
  | [d1, d2] => { results := [.lit (.bool true)], args := [d1, d2] }
  | _ => none }
def glyphJoinsRow : OpenClaim := { program := "ytegeghnmnpklpaadoor", sum := "60bb0cdef0ce8084c13dccc2ec3070dd349390a9b781e58adcbc3a870ca0339a", func := "platen/platenlaw01.GlyphJoins", spec := "glyphJoins", named := ["unicode/utf8.first", "unicode/utf8.acceptRanges"], apart := false, laid := [("unicode/utf8.acceptRanges", laid_unicode_utf8_acceptRanges), ("unicode/utf8.first", laid_unicode_utf8_first)] }
def GlyphJoinsSaid : Prop := glyphJoinsRow.holds Tryd.pinned (OpenSpec.ofChange glyphJoinsSpec)

/-- ITS FALSE NEIGHBOUR: 'it returns false'. Refute it at one input. -/
def glyphJoinsWrong : ChangeSpec := { name := "glyphJoins", fn := fun _ => fun
  | [d1, d2] => { results := [.lit (.bool false)], args := [d1, d2] }
  | _ => none }
def GlyphJoinsWrongFalsely : Prop := glyphJoinsRow.holds Tryd.pinned (OpenSpec.ofChange glyphJoinsWrong)

/-- 'platenlaw01.GlyphSteps': WHATEVER THE INPUT: true; the input reads as it did. -/
def glyphStepsSpec : ChangeSpec := { name := "glyphSteps", fn := fun _ => fun
  | [d1, d2, d3] => { results := [.lit (.bool true)], args := [d1, d2, d3] }
  | _ => none }
def glyphStepsRow : OpenClaim := { program := "ytegeghnmnpklpaadoor", sum := "60bb0cdef0ce8084c13dccc2ec3070dd349390a9b781e58adcbc3a870ca0339a", func := "platen/platenlaw01.GlyphSteps", spec := "glyphSteps", named := ["unicode/utf8.first", "unicode/utf8.acceptRanges"], apart := false, laid := [("unicode/utf8.acceptRanges", laid_unicode_utf8_acceptRanges), ("unicode/utf8.first", laid_unicode_utf8_first)] }
def GlyphStepsSaid : Prop := glyphStepsRow.holds Tryd.pinned (OpenSpec.ofChange glyphStepsSpec)

/-- ITS FALSE NEIGHBOUR: 'it returns false'. Refute it at one input. -/
def glyphStepsWrong : ChangeSpec := { name := "glyphSteps", fn := fun _ => fun
  | [d1, d2, d3] => { results := [.lit (.bool false)], args := [d1, d2, d3] }
  | _ => none }
def GlyphStepsWrongFalsely : Prop := glyphStepsRow.holds Tryd.pinned (OpenSpec.ofChange glyphStepsWrong)

/-- 'platenlaw01.GlyphWides': WHATEVER THE INPUT: true; the input reads as it did. -/
def glyphWidesSpec : ChangeSpec := { name := "glyphWides", fn := fun _ => fun
  | [d1, d2, d3, d4] => { results := [.lit (.bool true)], args := [d1, d2, d3, d4] }
  | _ => none }
def glyphWidesRow : OpenClaim := { program := "ytegeghnmnpklpaadoor", sum := "60bb0cdef0ce8084c13dccc2ec3070dd349390a9b781e58adcbc3a870ca0339a", func := "platen/platenlaw01.GlyphWides", spec := "glyphWides", named := ["unicode/utf8.first", "unicode/utf8.acceptRanges"], apart := false, laid := [("unicode/utf8.acceptRanges", laid_unicode_utf8_acceptRanges), ("unicode/utf8.first", laid_unicode_utf8_first)] }
def GlyphWidesSaid : Prop := glyphWidesRow.holds Tryd.pinned (OpenSpec.ofChange glyphWidesSpec)

/-- ITS FALSE NEIGHBOUR: 'it returns false'. Refute it at one input. -/
def glyphWidesWrong : ChangeSpec := { name := "glyphWides", fn := fun _ => fun
  | [d1, d2, d3, d4] => { results := [.lit (.bool false)], args := [d1, d2, d3, d4] }
  | _ => none }
def GlyphWidesWrongFalsely : Prop := glyphWidesRow.holds Tryd.pinned (OpenSpec.ofChange glyphWidesWrong)

/-- 'platenlaw01.GlyphBlanks': WHATEVER THE INPUT: true; the input reads as it did. -/
def glyphBlanksSpec : ChangeSpec := { name := "glyphBlanks", fn := fun _ => fun
  | [d] => { results := [.lit (.bool true)], args := [d] }
  | _ => none }
def glyphBlanksRow : OpenClaim := { program := "ytegeghnmnpklpaadoor", sum := "60bb0cdef0ce8084c13dccc2ec3070dd349390a9b781e58adcbc3a870ca0339a", func := "platen/platenlaw01.GlyphBlanks", spec := "glyphBlanks", named := ["unicode/utf8.first", "unicode/utf8.acceptRanges"], apart := false, laid := [("unicode/utf8.acceptRanges", laid_unicode_utf8_acceptRanges), ("unicode/utf8.first", laid_unicode_utf8_first)] }
def GlyphBlanksSaid : Prop := glyphBlanksRow.holds Tryd.pinned (OpenSpec.ofChange glyphBlanksSpec)

/-- ITS FALSE NEIGHBOUR: 'it returns false'. Refute it at one input. -/
def glyphBlanksWrong : ChangeSpec := { name := "glyphBlanks", fn := fun _ => fun
  | [d] => { results := [.lit (.bool false)], args := [d] }
  | _ => none }
def GlyphBlanksWrongFalsely : Prop := glyphBlanksRow.holds Tryd.pinned (OpenSpec.ofChange glyphBlanksWrong)

/-- 'platenlaw01.GlyphAts': WHATEVER THE INPUT: true; the input reads as it did. -/
def glyphAtsSpec : ChangeSpec := { name := "glyphAts", fn := fun _ => fun
  | [d1, d2, d3] => { results := [.lit (.bool true)], args := [d1, d2, d3] }
  | _ => none }
def glyphAtsRow : OpenClaim := { program := "ytegeghnmnpklpaadoor", sum := "60bb0cdef0ce8084c13dccc2ec3070dd349390a9b781e58adcbc3a870ca0339a", func := "platen/platenlaw01.GlyphAts", spec := "glyphAts", named := ["unicode/utf8.first", "unicode/utf8.acceptRanges"], apart := false, laid := [("unicode/utf8.acceptRanges", laid_unicode_utf8_acceptRanges), ("unicode/utf8.first", laid_unicode_utf8_first)] }
def GlyphAtsSaid : Prop := glyphAtsRow.holds Tryd.pinned (OpenSpec.ofChange glyphAtsSpec)

/-- ITS FALSE NEIGHBOUR: 'it returns false'. Refute it at one input. -/
def glyphAtsWrong : ChangeSpec := { name := "glyphAts", fn := fun _ => fun
  | [d1, d2, d3] => { results := [.lit (.bool false)], args := [d1, d2, d3] }
  | _ => none }
def GlyphAtsWrongFalsely : Prop := glyphAtsRow.holds Tryd.pinned (OpenSpec.ofChange glyphAtsWrong)

/-- 'platenlaw01.GlyphLeast': WHATEVER THE INPUT: true; the input reads as it did. -/
def glyphLeastSpec : ChangeSpec := { name := "glyphLeast", fn := fun _ => fun
  | [d1, d2, d3] => { results := [.lit (.bool true)], args := [d1, d2, d3] }
  | _ => none }
def glyphLeastRow : OpenClaim := { program := "ytegeghnmnpklpaadoor", sum := "60bb0cdef0ce8084c13dccc2ec3070dd349390a9b781e58adcbc3a870ca0339a", func := "platen/platenlaw01.GlyphLeast", spec := "glyphLeast", named := ["unicode/utf8.first", "unicode/utf8.acceptRanges"], apart := false, laid := [("unicode/utf8.acceptRanges", laid_unicode_utf8_acceptRanges), ("unicode/utf8.first", laid_unicode_utf8_first)] }
def GlyphLeastSaid : Prop := glyphLeastRow.holds Tryd.pinned (OpenSpec.ofChange glyphLeastSpec)

/-- ITS FALSE NEIGHBOUR: 'it returns false'. Refute it at one input. -/
def glyphLeastWrong : ChangeSpec := { name := "glyphLeast", fn := fun _ => fun
  | [d1, d2, d3] => { results := [.lit (.bool false)], args := [d1, d2, d3] }
  | _ => none }
def GlyphLeastWrongFalsely : Prop := glyphLeastRow.holds Tryd.pinned (OpenSpec.ofChange glyphLeastWrong)

/-- 'platenlaw01.GlyphFills': WHATEVER THE INPUT: true; the input reads as it did. -/
def glyphFillsSpec : ChangeSpec := { name := "glyphFills", fn := fun _ => fun
  | [d1, d2, d3, d4] => { results := [.lit (.bool true)], args := [d1, d2, d3, d4] }
  | _ => none }
def glyphFillsRow : OpenClaim := { program := "ytegeghnmnpklpaadoor", sum := "60bb0cdef0ce8084c13dccc2ec3070dd349390a9b781e58adcbc3a870ca0339a", func := "platen/platenlaw01.GlyphFills", spec := "glyphFills", named := ["unicode/utf8.first", "unicode/utf8.acceptRanges"], apart := false, laid := [("unicode/utf8.acceptRanges", laid_unicode_utf8_acceptRanges), ("unicode/utf8.first", laid_unicode_utf8_first)] }
def GlyphFillsSaid : Prop := glyphFillsRow.holds Tryd.pinned (OpenSpec.ofChange glyphFillsSpec)

/-- ITS FALSE NEIGHBOUR: 'it returns false'. Refute it at one input. -/
def glyphFillsWrong : ChangeSpec := { name := "glyphFills", fn := fun _ => fun
  | [d1, d2, d3, d4] => { results := [.lit (.bool false)], args := [d1, d2, d3, d4] }
  | _ => none }
def GlyphFillsWrongFalsely : Prop := glyphFillsRow.holds Tryd.pinned (OpenSpec.ofChange glyphFillsWrong)

/- THE SECOND FORM. 'bulk': how many values and letters a reading holds, each counted each time it is reached (what is shared counts as often as it is met; a slice's spare places count too). A statement '..UptoSaid' is the law's where the arguments, and the package variables that the reading takes, are together of bulk at most 1048576: NARROWER than '..Said'. Prove '..Said' where nothing that the law and all that it calls make is longer than what came in: it says more and counts as full. Else prove '..UptoSaid'. A law counts once. -/
mutual
def uptoBulk {H : Type} : DataW H → Nat
  | .lit (.string bytes) => bytes.length + 1
  | .lit _ => 1
  | .nil => 1
  | .ptr d => uptoBulk d + 1
  | .slice elems spare => uptoBulkAll elems + uptoBulkAll spare + 1
  | .agg parts => uptoBulkAll parts + 1
  | .iface _ d => uptoBulk d + 1
  | .map entries => uptoBulkEntries entries + 1
  | .held _ => 1
def uptoBulkAll {H : Type} : List (DataW H) → Nat
  | [] => 0
  | d :: r => uptoBulk d + uptoBulkAll r
def uptoBulkEntries {H : Type} : List (Lit × DataW H) → Nat
  | [] => 0
  | x :: r => uptoBulkEntry x + uptoBulkEntries r
def uptoBulkEntry {H : Type} : Lit × DataW H → Nat
  | (.string bytes, d) => bytes.length + uptoBulk d + 1
  | (_, d) => uptoBulk d + 1
 end
def uptoSmall : (H : Type) → List (DataW H) → Bool := fun _ ds => decide (uptoBulkAll ds ≤ 1048576)
def OpenSpec.upto (s : _root_.Go.ChangeSpec) : _root_.Go.OpenSpec := { _root_.Go.OpenSpec.ofChange s with cond := some uptoSmall }

/-- 'platenlaw01.GlyphNexts', WHERE WHAT IT READS IS OF BULK AT MOST 1048576: true; the input reads as it did. -/
def glyphNextsUptoRow : OpenClaim := { program := "ytegeghnmnpklpaadoor", sum := "60bb0cdef0ce8084c13dccc2ec3070dd349390a9b781e58adcbc3a870ca0339a", func := "platen/platenlaw01.GlyphNexts", spec := "glyphNexts", named := ["unicode/utf8.first", "unicode/utf8.acceptRanges"], apart := false, laid := [("unicode/utf8.acceptRanges", laid_unicode_utf8_acceptRanges), ("unicode/utf8.first", laid_unicode_utf8_first)], narrowed := true }
def GlyphNextsUptoSaid : Prop := glyphNextsUptoRow.holds Tryd.pinned (OpenSpec.upto glyphNextsSpec)

/-- 'platenlaw01.GlyphPrevs', WHERE WHAT IT READS IS OF BULK AT MOST 1048576: true; the input reads as it did. -/
def glyphPrevsUptoRow : OpenClaim := { program := "ytegeghnmnpklpaadoor", sum := "60bb0cdef0ce8084c13dccc2ec3070dd349390a9b781e58adcbc3a870ca0339a", func := "platen/platenlaw01.GlyphPrevs", spec := "glyphPrevs", named := ["unicode/utf8.first", "unicode/utf8.acceptRanges"], apart := false, laid := [("unicode/utf8.acceptRanges", laid_unicode_utf8_acceptRanges), ("unicode/utf8.first", laid_unicode_utf8_first)], narrowed := true }
def GlyphPrevsUptoSaid : Prop := glyphPrevsUptoRow.holds Tryd.pinned (OpenSpec.upto glyphPrevsSpec)

/-- 'platenlaw01.GlyphFloors', WHERE WHAT IT READS IS OF BULK AT MOST 1048576: true; the input reads as it did. -/
def glyphFloorsUptoRow : OpenClaim := { program := "ytegeghnmnpklpaadoor", sum := "60bb0cdef0ce8084c13dccc2ec3070dd349390a9b781e58adcbc3a870ca0339a", func := "platen/platenlaw01.GlyphFloors", spec := "glyphFloors", named := ["unicode/utf8.first", "unicode/utf8.acceptRanges"], apart := false, laid := [("unicode/utf8.acceptRanges", laid_unicode_utf8_acceptRanges), ("unicode/utf8.first", laid_unicode_utf8_first)], narrowed := true }
def GlyphFloorsUptoSaid : Prop := glyphFloorsUptoRow.holds Tryd.pinned (OpenSpec.upto glyphFloorsSpec)

/-- 'platenlaw01.GlyphWalks', WHERE WHAT IT READS IS OF BULK AT MOST 1048576: true; the input reads as it did. -/
def glyphWalksUptoRow : OpenClaim := { program := "ytegeghnmnpklpaadoor", sum := "60bb0cdef0ce8084c13dccc2ec3070dd349390a9b781e58adcbc3a870ca0339a", func := "platen/platenlaw01.GlyphWalks", spec := "glyphWalks", named := ["unicode/utf8.first", "unicode/utf8.acceptRanges"], apart := false, laid := [("unicode/utf8.acceptRanges", laid_unicode_utf8_acceptRanges), ("unicode/utf8.first", laid_unicode_utf8_first)], narrowed := true }
def GlyphWalksUptoSaid : Prop := glyphWalksUptoRow.holds Tryd.pinned (OpenSpec.upto glyphWalksSpec)

/-- 'platenlaw01.GlyphJoins', WHERE WHAT IT READS IS OF BULK AT MOST 1048576: true; the input reads as it did. -/
def glyphJoinsUptoRow : OpenClaim := { program := "ytegeghnmnpklpaadoor", sum := "60bb0cdef0ce8084c13dccc2ec3070dd349390a9b781e58adcbc3a870ca0339a", func := "platen/platenlaw01.GlyphJoins", spec := "glyphJoins", named := ["unicode/utf8.first", "unicode/utf8.acceptRanges"], apart := false, laid := [("unicode/utf8.acceptRanges", laid_unicode_utf8_acceptRanges), ("unicode/utf8.first", laid_unicode_utf8_first)], narrowed := true }
def GlyphJoinsUptoSaid : Prop := glyphJoinsUptoRow.holds Tryd.pinned (OpenSpec.upto glyphJoinsSpec)

/-- 'platenlaw01.GlyphSteps', WHERE WHAT IT READS IS OF BULK AT MOST 1048576: true; the input reads as it did. -/
def glyphStepsUptoRow : OpenClaim := { program := "ytegeghnmnpklpaadoor", sum := "60bb0cdef0ce8084c13dccc2ec3070dd349390a9b781e58adcbc3a870ca0339a", func := "platen/platenlaw01.GlyphSteps", spec := "glyphSteps", named := ["unicode/utf8.first", "unicode/utf8.acceptRanges"], apart := false, laid := [("unicode/utf8.acceptRanges", laid_unicode_utf8_acceptRanges), ("unicode/utf8.first", laid_unicode_utf8_first)], narrowed := true }
def GlyphStepsUptoSaid : Prop := glyphStepsUptoRow.holds Tryd.pinned (OpenSpec.upto glyphStepsSpec)

/-- 'platenlaw01.GlyphWides', WHERE WHAT IT READS IS OF BULK AT MOST 1048576: true; the input reads as it did. -/
def glyphWidesUptoRow : OpenClaim := { program := "ytegeghnmnpklpaadoor", sum := "60bb0cdef0ce8084c13dccc2ec3070dd349390a9b781e58adcbc3a870ca0339a", func := "platen/platenlaw01.GlyphWides", spec := "glyphWides", named := ["unicode/utf8.first", "unicode/utf8.acceptRanges"], apart := false, laid := [("unicode/utf8.acceptRanges", laid_unicode_utf8_acceptRanges), ("unicode/utf8.first", laid_unicode_utf8_first)], narrowed := true }
def GlyphWidesUptoSaid : Prop := glyphWidesUptoRow.holds Tryd.pinned (OpenSpec.upto glyphWidesSpec)

/-- 'platenlaw01.GlyphBlanks', WHERE WHAT IT READS IS OF BULK AT MOST 1048576: true; the input reads as it did. -/
def glyphBlanksUptoRow : OpenClaim := { program := "ytegeghnmnpklpaadoor", sum := "60bb0cdef0ce8084c13dccc2ec3070dd349390a9b781e58adcbc3a870ca0339a", func := "platen/platenlaw01.GlyphBlanks", spec := "glyphBlanks", named := ["unicode/utf8.first", "unicode/utf8.acceptRanges"], apart := false, laid := [("unicode/utf8.acceptRanges", laid_unicode_utf8_acceptRanges), ("unicode/utf8.first", laid_unicode_utf8_first)], narrowed := true }
def GlyphBlanksUptoSaid : Prop := glyphBlanksUptoRow.holds Tryd.pinned (OpenSpec.upto glyphBlanksSpec)

/-- 'platenlaw01.GlyphAts', WHERE WHAT IT READS IS OF BULK AT MOST 1048576: true; the input reads as it did. -/
def glyphAtsUptoRow : OpenClaim := { program := "ytegeghnmnpklpaadoor", sum := "60bb0cdef0ce8084c13dccc2ec3070dd349390a9b781e58adcbc3a870ca0339a", func := "platen/platenlaw01.GlyphAts", spec := "glyphAts", named := ["unicode/utf8.first", "unicode/utf8.acceptRanges"], apart := false, laid := [("unicode/utf8.acceptRanges", laid_unicode_utf8_acceptRanges), ("unicode/utf8.first", laid_unicode_utf8_first)], narrowed := true }
def GlyphAtsUptoSaid : Prop := glyphAtsUptoRow.holds Tryd.pinned (OpenSpec.upto glyphAtsSpec)

/-- 'platenlaw01.GlyphLeast', WHERE WHAT IT READS IS OF BULK AT MOST 1048576: true; the input reads as it did. -/
def glyphLeastUptoRow : OpenClaim := { program := "ytegeghnmnpklpaadoor", sum := "60bb0cdef0ce8084c13dccc2ec3070dd349390a9b781e58adcbc3a870ca0339a", func := "platen/platenlaw01.GlyphLeast", spec := "glyphLeast", named := ["unicode/utf8.first", "unicode/utf8.acceptRanges"], apart := false, laid := [("unicode/utf8.acceptRanges", laid_unicode_utf8_acceptRanges), ("unicode/utf8.first", laid_unicode_utf8_first)], narrowed := true }
def GlyphLeastUptoSaid : Prop := glyphLeastUptoRow.holds Tryd.pinned (OpenSpec.upto glyphLeastSpec)

/-- 'platenlaw01.GlyphFills', WHERE WHAT IT READS IS OF BULK AT MOST 1048576: true; the input reads as it did. -/
def glyphFillsUptoRow : OpenClaim := { program := "ytegeghnmnpklpaadoor", sum := "60bb0cdef0ce8084c13dccc2ec3070dd349390a9b781e58adcbc3a870ca0339a", func := "platen/platenlaw01.GlyphFills", spec := "glyphFills", named := ["unicode/utf8.first", "unicode/utf8.acceptRanges"], apart := false, laid := [("unicode/utf8.acceptRanges", laid_unicode_utf8_acceptRanges), ("unicode/utf8.first", laid_unicode_utf8_first)], narrowed := true }
def GlyphFillsUptoSaid : Prop := glyphFillsUptoRow.holds Tryd.pinned (OpenSpec.upto glyphFillsSpec)

end Rows
end Go.Proofs.YtegeghnmnpklpaaDoor
