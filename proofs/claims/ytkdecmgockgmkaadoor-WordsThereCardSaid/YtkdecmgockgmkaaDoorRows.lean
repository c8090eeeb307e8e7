/-
  NARROWER THAN 'FOR EVERY INPUT', by the rows' own cells (each row's printed sentence says how): WordsClasses: laid · WordsRuns: laid · WordsLast: laid · WordsForward: laid · WordsBack: laid · WordsSolid: laid · WordsApart: laid · WordsThere: laid.
  DERIVED. THE GIVEN ROWS OF THIS SEAT. 8 by the template 'for every input the law returns true; each argument reads behind the call as it read before'; 0 by the template 'total and deterministic' (their statements: YtkdecmgockgmkaaDoorTotals.lean).
  GIVEN WITH THE SEED: the statements are not yours to turn. If you find one false, say at which input.
  Laid BY PROGRAM, IN A SANDBOX (cutbox-rows.mjs): the forced cells as the released guide's own fill.sh prints them over the translation 7fe8f016d0d684f7… (all of the seat's roots in one cut). By AI agents, Wed Nov 11 2026. No macro, syntax, notation, axiom, sorry.
-/
import Derived.Test.YtkdecmgockgmkaaDoorChecked
import GoSem.PinnedTables
import GoSem.Claim
import GoSem.ClaimJoined
import GoSem.ClaimMapViews
import Derived.JoinedTies
import Derived.KernelRfl
namespace Go.Proofs.YtkdecmgockgmkaaDoor
/- THE CELL 'sum', in the pinned program and in every row, IS THE sha256 OF THE DUMP (.gsa) THAT YtkdecmgockgmkaaDoorProg.lean LOADS. Nothing in Lean hashes anything: it is a label: what it is worth is what the hold of that sum in a sandbox is worth. -/
noncomputable def Tryd.pinned : Pinned := { name := "ytkdecmgockgmkaadoor", sum := "7fe8f016d0d684f7194165243377aeb52b8f0be15775cd3a59fbb868bf9149cd", checked := Tryd.checked }
namespace Rows
def none {H : Type} : Left H := { results := [], args := [] }

/- WHAT THE LISTED PACKAGE-LEVEL VARIABLES READ AS WHEN THE CALL BEGINS. Each datum BY PROGRAM (the guide's laid-datum.mjs) off the statement by which the dump's own 'gosem.cut.vars' lays the variable. In a bare row this is a premise. The card (YtkdecmgockgmkaaDoorCards.lean) ties it to the program's text. -/
def laid_unicode_utf8_acceptRanges {H : Type} : DataW H := .agg [.agg [.lit (.int .u8 128), .lit (.int .u8 191)], .agg [.lit (.int .u8 160), .lit (.int .u8 191)], .agg [.lit (.int .u8 128), .lit (.int .u8 159)], .agg [.lit (.int .u8 144), .lit (.int .u8 191)], .agg [.lit (.int .u8 128), .lit (.int .u8 143)], .agg [.lit (.int .u8 0), .lit (.int .u8 0)], .agg [.lit (.int .u8 0), .lit (.int .u8 0)], .agg [.lit (.int .u8 0), .lit (.int .u8 0)], .agg [.lit (.int .u8 0), .lit (.int .u8 0)], .agg [.lit (.int .u8 0), .lit (.int .u8 0)], .agg [.lit (.int .u8 0), .lit (.int .u8 0)], .agg [.lit (.int .u8 0), .lit (.int .u8 0)], .agg [.lit (.int .u8 0), .lit (.int .u8 0)], .agg [.lit (.int .u8 0), .lit (.int .u8 0)], .agg [.lit (.int .u8 0), .lit (.int .u8 0)], .agg [.lit (.int .u8 0), .lit (.int .u8 0)]]
/-- One of Go's own tables, pinned by name: the form's constant. -/
def laid_unicode_utf8_first : DataW Unit := Go.Pinned.utf8First

/-- 'platenlaw05.WordsClasses': WHATEVER THE INPUT: true; the input reads as it did. -/
def wordsClassesSpec : ChangeSpec := { name := "wordsClasses", fn := fun _ => fun
  | [d] => { results := [.lit (.bool true)], args := [d] }
  | _ => none }
def wordsClassesRow : OpenClaim := { program := "ytkdecmgockgmkaadoor", sum := "7fe8f016d0d684f7194165243377aeb52b8f0be15775cd3a59fbb868bf9149cd", func := "platen/platenlaw05.WordsClasses", spec := "wordsClasses", named := ["unicode/utf8.first", "unicode/utf8.acceptRanges"], apart := false, laid := [("unicode/utf8.acceptRanges", laid_unicode_utf8_acceptRanges), ("unicode/utf8.first", laid_unicode_utf8_first)] }
def WordsClassesSaid : Prop := wordsClassesRow.holds Tryd.pinned (OpenSpec.ofChange wordsClassesSpec)

/-- ITS FALSE NEIGHBOUR: 'it returns false'. Refute it at one input. -/
def wordsClassesWrong : ChangeSpec := { name := "wordsClasses", fn := fun _ => fun
  | [d] => { results := [.lit (.bool false)], args := [d] }
  | _ => none }
def WordsClassesWrongFalsely : Prop := wordsClassesRow.holds Tryd.pinned (OpenSpec.ofChange wordsClassesWrong)

/-- 'platenlaw05.WordsRuns': WHATEVER THE INPUT: true; the input reads as it did. -/
def wordsRunsSpec : ChangeSpec := { name := "wordsRuns", fn := fun _ => fun
  | [d] => { results := [.lit (.bool true)], args := [d] }
  | _ => none }
def wordsRunsRow : OpenClaim := { program := "ytkdecmgockgmkaadoor", sum := "7fe8f016d0d684f7194165243377aeb52b8f0be15775cd3a59fbb868bf9149cd", func := "platen/platenlaw05.WordsRuns", spec := "wordsRuns", named := ["unicode/utf8.first", "unicode/utf8.acceptRanges"], apart := false, laid := [("unicode/utf8.acceptRanges", laid_unicode_utf8_acceptRanges), ("unicode/utf8.first", laid_unicode_utf8_first)] }
def WordsRunsSaid : Prop := wordsRunsRow.holds Tryd.pinned (OpenSpec.ofChange wordsRunsSpec)

/-- ITS FALSE NEIGHBOUR: 'it returns false'. Refute it at one input. -/
def wordsRunsWrong : ChangeSpec := { name := "wordsRuns", fn := fun _ => fun
  | [d] => { results := [.lit (.bool false)], args := [d] }
  | _ => none }
def WordsRunsWrongFalsely : Prop := wordsRunsRow.holds Tryd.pinned (OpenSpec.ofChange wordsRunsWrong)

/-- 'platenlaw05.WordsLast': WHATEVER THE INPUT: true; the input reads as it did. -/
def wordsLastSpec : ChangeSpec := { name := "wordsLast", fn := fun _ => fun
  | [d1, d2] => { results := [.lit (.bool true)], args := [d1, d2] }
  | _ => none }
def wordsLastRow : OpenClaim := { program := "ytkdecmgockgmkaadoor", sum := "7fe8f016d0d684f7194165243377aeb52b8f0be15775cd3a59fbb868bf9149cd", func := "platen/platenlaw05.WordsLast", spec := "wordsLast", named := ["unicode/utf8.first", "unicode/utf8.acceptRanges"], apart := false, laid := [("unicode/utf8.acceptRanges", laid_unicode_utf8_acceptRanges), ("unicode/utf8.first", laid_unicode_utf8_first)] }
def WordsLastSaid : Prop := wordsLastRow.holds Tryd.pinned (OpenSpec.ofChange wordsLastSpec)

/-- ITS FALSE NEIGHBOUR: 'it returns false'. Refute it at one input. -/
def wordsLastWrong : ChangeSpec := { name := "wordsLast", fn := fun _ => fun
  | [d1, d2] => { results := [.lit (.bool false)], args := [d1, d2] }
  | _ => none }
def WordsLastWrongFalsely : Prop := wordsLastRow.holds Tryd.pinned (OpenSpec.ofChange wordsLastWrong)

/-- 'platenlaw05.WordsForward': WHATEVER THE INPUT: true; the input reads as it did. -/
def wordsForwardSpec : ChangeSpec := { name := "wordsForward", fn := fun _ => fun
  | [d1, d2] => { results := [.lit (.bool true)], args := [d1, d2] }
  | _ => none }
def wordsForwardRow : OpenClaim := { program := "ytkdecmgockgmkaadoor", sum := "7fe8f016d0d684f7194165243377aeb52b8f0be15775cd3a59fbb868bf9149cd", func := "platen/platenlaw05.WordsForward", spec := "wordsForward", named := ["unicode/utf8.first", "unicode/utf8.acceptRanges"], apart := false, laid := [("unicode/utf8.acceptRanges", laid_unicode_utf8_acceptRanges), ("unicode/utf8.first", laid_unicode_utf8_first)] }
def WordsForwardSaid : Prop := wordsForwardRow.holds Tryd.pinned (OpenSpec.ofChange wordsForwardSpec)

/-- ITS FALSE NEIGHBOUR: 'it returns false'. Refute it at one input. -/
def wordsForwardWrong : ChangeSpec := { name := "wordsForward", fn := fun _ => fun
  | [d1, d2] => { results := [.lit (.bool false)], args := [d1, d2] }
  | _ => none }
def WordsForwardWrongFalsely : Prop := wordsForwardRow.holds Tryd.pinned (OpenSpec.ofChange wordsForwardWrong)

/-- 'platenlaw05.WordsBack': WHATEVER THE INPUT: true; the input reads as it did. -/
def wordsBackSpec : ChangeSpec := { name := "wordsBack", fn := fun _ => fun
  | [d1, d2] => { results := [.lit (.bool true)], args := [d1, d2] }
  | _ => none }
def wordsBackRow : OpenClaim := { program := "ytkdecmgockgmkaadoor", sum := "7fe8f016d0d684f7194165243377aeb52b8f0be15775cd3a59fbb868bf9149cd", func := "platen/platenlaw05.WordsBack", spec := "wordsBack", named := ["unicode/utf8.first", "unicode/utf8.acceptRanges"], apart := false, laid := [("unicode/utf8.acceptRanges", laid_unicode_utf8_acceptRanges), ("unicode/utf8.first", laid_unicode_utf8_first)] }
def WordsBackSaid : Prop := wordsBackRow.holds Tryd.pinned (OpenSpec.ofChange wordsBackSpec)

/-- ITS FALSE NEIGHBOUR: 'it returns false'. Refute it at one input. -/
def wordsBackWrong : ChangeSpec := { name := "wordsBack", fn := fun _ => fun
  | [d1, d2] => { results := [.lit (.bool false)], args := [d1, d2] }
  | _ => none }
def WordsBackWrongFalsely : Prop := wordsBackRow.holds Tryd.pinned (OpenSpec.ofChange wordsBackWrong)

/-- 'platenlaw05.WordsSolid': WHATEVER THE INPUT: true; the input reads as it did. -/
def wordsSolidSpec : ChangeSpec := { name := "wordsSolid", fn := fun _ => fun
  | [d] => { results := [.lit (.bool true)], args := [d] }
  | _ => none }
def wordsSolidRow : OpenClaim := { program := "ytkdecmgockgmkaadoor", sum := "7fe8f016d0d684f7194165243377aeb52b8f0be15775cd3a59fbb868bf9149cd", func := "platen/platenlaw05.WordsSolid", spec := "wordsSolid", named := ["unicode/utf8.first", "unicode/utf8.acceptRanges"], apart := false, laid := [("unicode/utf8.acceptRanges", laid_unicode_utf8_acceptRanges), ("unicode/utf8.first", laid_unicode_utf8_first)] }
def WordsSolidSaid : Prop := wordsSolidRow.holds Tryd.pinned (OpenSpec.ofChange wordsSolidSpec)

/-- ITS FALSE NEIGHBOUR: 'it returns false'. Refute it at one input. -/
def wordsSolidWrong : ChangeSpec := { name := "wordsSolid", fn := fun _ => fun
  | [d] => { results := [.lit (.bool false)], args := [d] }
  | _ => none }
def WordsSolidWrongFalsely : Prop := wordsSolidRow.holds Tryd.pinned (OpenSpec.ofChange wordsSolidWrong)

/-- 'platenlaw05.WordsApart': WHATEVER THE INPUT: true; the input reads as it did. -/
def wordsApartSpec : ChangeSpec := { name := "wordsApart", fn := fun _ => fun
  | [d1, d2] => { results := [.lit (.bool true)], args := [d1, d2] }
  | _ => none }
def wordsApartRow : OpenClaim := { program := "ytkdecmgockgmkaadoor", sum := "7fe8f016d0d684f7194165243377aeb52b8f0be15775cd3a59fbb868bf9149cd", func := "platen/platenlaw05.WordsApart", spec := "wordsApart", named := ["unicode/utf8.first", "unicode/utf8.acceptRanges"], apart := false, laid := [("unicode/utf8.acceptRanges", laid_unicode_utf8_acceptRanges), ("unicode/utf8.first", laid_unicode_utf8_first)] }
def WordsApartSaid : Prop := wordsApartRow.holds Tryd.pinned (OpenSpec.ofChange wordsApartSpec)

/-- ITS FALSE NEIGHBOUR: 'it returns false'. Refute it at one input. -/
def wordsApartWrong : ChangeSpec := { name := "wordsApart", fn := fun _ => fun
  | [d1, d2] => { results := [.lit (.bool false)], args := [d1, d2] }
  | _ => none }
def WordsApartWrongFalsely : Prop := wordsApartRow.holds Tryd.pinned (OpenSpec.ofChange wordsApartWrong)

/-- 'platenlaw05.WordsThere': WHATEVER THE INPUT: true; the input reads as it did. -/
def wordsThereSpec : ChangeSpec := { name := "wordsThere", fn := fun _ => fun
  | [d] => { results := [.lit (.bool true)], args := [d] }
  | _ => none }
def wordsThereRow : OpenClaim := { program := "ytkdecmgockgmkaadoor", sum := "7fe8f016d0d684f7194165243377aeb52b8f0be15775cd3a59fbb868bf9149cd", func := "platen/platenlaw05.WordsThere", spec := "wordsThere", named := ["unicode/utf8.first", "unicode/utf8.acceptRanges"], apart := false, laid := [("unicode/utf8.acceptRanges", laid_unicode_utf8_acceptRanges), ("unicode/utf8.first", laid_unicode_utf8_first)] }
def WordsThereSaid : Prop := wordsThereRow.holds Tryd.pinned (OpenSpec.ofChange wordsThereSpec)

/-- ITS FALSE NEIGHBOUR: 'it returns false'. Refute it at one input. -/
def wordsThereWrong : ChangeSpec := { name := "wordsThere", fn := fun _ => fun
  | [d] => { results := [.lit (.bool false)], args := [d] }
  | _ => none }
def WordsThereWrongFalsely : Prop := wordsThereRow.holds Tryd.pinned (OpenSpec.ofChange wordsThereWrong)

/- THE SECOND FORM. 'bulk': how many values and letters a reading holds, each counted each time it is reached (what is shared counts as often as it is met; a slice's spare places count too). A statement '..UptoSaid' is the law's where the arguments, and the package variables that the reading takes, are together of bulk at most 1048576: NARROWER than '..Said'. Prove '..Said' where nothing that the law and all that it calls make is longer than what came in: it says more and counts as full. Else prove '..UptoSaid'. A law counts once. -/
mutual
def uptoBulk {H : Type} : DataW H → Nat
  | .lit (.string bytes) => bytes.length + 1
  | .lit _ => 1
  | .nil => 1
  | .ptr d => uptoBulk d + 1
  | .slice elems spare => uptoBulkAll elems + uptoBulkAll spare + 1
  | .agg parts => uptoBulkAll parts + 1
  | .iface _ d => uptoBulk d + 1
  | .map entries => uptoBulkEntries entries + 1
  | .held _ => 1
def uptoBulkAll {H : Type} : List (DataW H) → Nat
  | [] => 0
  | d :: r => uptoBulk d + uptoBulkAll r
def uptoBulkEntries {H : Type} : List (Lit × DataW H) → Nat
  | [] => 0
  | x :: r => uptoBulkEntry x + uptoBulkEntries r
def uptoBulkEntry {H : Type} : Lit × DataW H → Nat
  | (.string bytes, d) => bytes.length + uptoBulk d + 1
  | (_, d) => uptoBulk d + 1
 end
def uptoSmall : (H : Type) → List (DataW H) → Bool := fun _ ds => decide (uptoBulkAll ds ≤ 1048576)
def OpenSpec.upto (s : _root_.Go.ChangeSpec) : _root_.Go.OpenSpec := { _root_.Go.OpenSpec.ofChange s with cond := some uptoSmall }

/-- 'platenlaw05.WordsClasses', WHERE WHAT IT READS IS OF BULK AT MOST 1048576: true; the input reads as it did. -/
def wordsClassesUptoRow : OpenClaim := { program := "ytkdecmgockgmkaadoor", sum := "7fe8f016d0d684f7194165243377aeb52b8f0be15775cd3a59fbb868bf9149cd", func := "platen/platenlaw05.WordsClasses", spec := "wordsClasses", named := ["unicode/utf8.first", "unicode/utf8.acceptRanges"], apart := false, laid := [("unicode/utf8.acceptRanges", laid_unicode_utf8_acceptRanges), ("unicode/utf8.first", laid_unicode_utf8_first)], narrowed := true }
def WordsClassesUptoSaid : Prop := wordsClassesUptoRow.holds Tryd.pinned (OpenSpec.upto wordsClassesSpec)

/-- 'platenlaw05.WordsRuns', WHERE WHAT IT READS IS OF BULK AT MOST 1048576: true; the input reads as it did. -/
def wordsRunsUptoRow : OpenClaim := { program := "ytkdecmgockgmkaadoor", sum := "7fe8f016d0d684f7194165243377aeb52b8f0be15775cd3a59fbb868bf9149cd", func := "platen/platenlaw05.WordsRuns", spec := "wordsRuns", named := ["unicode/utf8.first", "unicode/utf8.acceptRanges"], apart := false, laid := [("unicode/utf8.acceptRanges", laid_unicode_utf8_acceptRanges), ("unicode/utf8.first", laid_unicode_utf8_first)], narrowed := true }
def WordsRunsUptoSaid : Prop := wordsRunsUptoRow.holds Tryd.pinned (OpenSpec.upto wordsRunsSpec)

/-- 'platenlaw05.WordsLast', WHERE WHAT IT READS IS OF BULK AT MOST 1048576: true; the input reads as it did. -/
def wordsLastUptoRow : OpenClaim := { program := "ytkdecmgockgmkaadoor", sum := "7fe8f016d0d684f7194165243377aeb52b8f0be15775cd3a59fbb868bf9149cd", func := "platen/platenlaw05.WordsLast", spec := "wordsLast", named := ["unicode/utf8.first", "unicode/utf8.acceptRanges"], apart := false, laid := [("unicode/utf8.acceptRanges", laid_unicode_utf8_acceptRanges), ("unicode/utf8.first", laid_unicode_utf8_first)], narrowed := true }
def WordsLastUptoSaid : Prop := wordsLastUptoRow.holds Tryd.pinned (OpenSpec.upto wordsLastSpec)

/-- 'platenlaw05.WordsForward', WHERE WHAT IT READS IS OF BULK AT MOST 1048576: true; the input reads as it did. -/
def wordsForwardUptoRow : OpenClaim := { program := "ytkdecmgockgmkaadoor", sum := "7fe8f016d0d684f7194165243377aeb52b8f0be15775cd3a59fbb868bf9149cd", func := "platen/platenlaw05.WordsForward", spec := "wordsForward", named := ["unicode/utf8.first", "unicode/utf8.acceptRanges"], apart := false, laid := [("unicode/utf8.acceptRanges", laid_unicode_utf8_acceptRanges), ("unicode/utf8.first", laid_unicode_utf8_first)], narrowed := true }
def WordsForwardUptoSaid : Prop := wordsForwardUptoRow.holds Tryd.pinned (OpenSpec.upto wordsForwardSpec)

/-- 'platenlaw05.WordsBack', WHERE WHAT IT READS IS OF BULK AT MOST 1048576: true; the input reads as it did. -/
def wordsBackUptoRow : OpenClaim := { program := "ytkdecmgockgmkaadoor", sum := "7fe8f016d0d684f7194165243377aeb52b8f0be15775cd3a59fbb868bf9149cd", func := "platen/platenlaw05.WordsBack", spec := "wordsBack", named := ["unicode/utf8.first", "unicode/utf8.acceptRanges"], apart := false, laid := [("unicode/utf8.acceptRanges", laid_unicode_utf8_acceptRanges), ("unicode/utf8.first", laid_unicode_utf8_first)], narrowed := true }
def WordsBackUptoSaid : Prop := wordsBackUptoRow.holds Tryd.pinned (OpenSpec.upto wordsBackSpec)

/-- 'platenlaw05.WordsSolid', WHERE WHAT IT READS IS OF BULK AT MOST 1048576: true; the input reads as it did. -/
def wordsSolidUptoRow : OpenClaim := { program := "ytkdecmgockgmkaadoor", sum := "7fe8f016d0d684f7194165243377aeb52b8f0be15775cd3a59fbb868bf9149cd", func := "platen/platenlaw05.WordsSolid", spec := "wordsSolid", named := ["unicode/utf8.first", "unicode/utf8.acceptRanges"], apart := false, laid := [("unicode/utf8.acceptRanges", laid_unicode_utf8_acceptRanges), ("unicode/utf8.first", laid_unicode_utf8_first)], narrowed := true }
def WordsSolidUptoSaid : Prop := wordsSolidUptoRow.holds Tryd.pinned (OpenSpec.upto wordsSolidSpec)

/-- 'platenlaw05.WordsApart', WHERE WHAT IT READS IS OF BULK AT MOST 1048576: true; the input reads as it did. -/
def wordsApartUptoRow : OpenClaim := { program := "ytkdecmgockgmkaadoor", sum := "7fe8f016d0d684f7194165243377aeb52b8f0be15775cd3a59fbb868bf9149cd", func := "platen/platenlaw05.WordsApart", spec := "wordsApart", named := ["unicode/utf8.first", "unicode/utf8.acceptRanges"], apart := false, laid := [("unicode/utf8.acceptRanges", laid_unicode_utf8_acceptRanges), ("unicode/utf8.first", laid_unicode_utf8_first)], narrowed := true }
def WordsApartUptoSaid : Prop := wordsApartUptoRow.holds Tryd.pinned (OpenSpec.upto wordsApartSpec)

/-- 'platenlaw05.WordsThere', WHERE WHAT IT READS IS OF BULK AT MOST 1048576: true; the input reads as it did. -/
def wordsThereUptoRow : OpenClaim := { program := "ytkdecmgockgmkaadoor", sum := "7fe8f016d0d684f7194165243377aeb52b8f0be15775cd3a59fbb868bf9149cd", func := "platen/platenlaw05.WordsThere", spec := "wordsThere", named := ["unicode/utf8.first", "unicode/utf8.acceptRanges"], apart := false, laid := [("unicode/utf8.acceptRanges", laid_unicode_utf8_acceptRanges), ("unicode/utf8.first", laid_unicode_utf8_first)], narrowed := true }
def WordsThereUptoSaid : Prop := wordsThereUptoRow.holds Tryd.pinned (OpenSpec.upto wordsThereSpec)

end Rows
end Go.Proofs.YtkdecmgockgmkaaDoor
