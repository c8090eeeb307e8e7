/-
  NARROWER THAN 'FOR EVERY INPUT', by the rows' own cells (each row's printed sentence says how): ShiftLines: laid · ShiftBack: laid · ShiftAdds: laid · ShiftColumns: laid · ShiftTexts: laid · ShiftStays: laid · ShiftLong: laid.
  DERIVED. THE GIVEN ROWS OF THIS SEAT. 7 by the template 'for every input the law returns true; each argument reads behind the call as it read before'; 0 by the template 'total and deterministic' (their statements: YtdaodcdbfaikjaaDoorTotals.lean).
  GIVEN WITH THE SEED: the statements are not yours to turn. If you find one false, say at which input.
  Laid BY PROGRAM, IN A SANDBOX (cutbox-rows.mjs): the forced cells as the released guide's own fill.sh prints them over the translation d141324a7fd5ccff… (all of the seat's roots in one cut). By AI agents, Wed Nov 11 2026. No macro, syntax, notation, axiom, sorry.
-/
import Derived.Test.YtdaodcdbfaikjaaDoorChecked
import GoSem.PinnedTables
import GoSem.Claim
import GoSem.ClaimJoined
import GoSem.ClaimMapViews
import Derived.JoinedTies
import Derived.KernelRfl
namespace Go.Proofs.YtdaodcdbfaikjaaDoor
/- THE CELL 'sum', in the pinned program and in every row, IS THE sha256 OF THE DUMP (.gsa) THAT YtdaodcdbfaikjaaDoorProg.lean LOADS. Nothing in Lean hashes anything: it is a label: what it is worth is what the hold of that sum in a sandbox is worth. -/
noncomputable def Tryd.pinned : Pinned := { name := "ytdaodcdbfaikjaadoor", sum := "d141324a7fd5ccff49cc076148510a23da9053a7842f67e8e258938dbe71a2e9", checked := Tryd.checked }
namespace Rows
def none {H : Type} : Left H := { results := [], args := [] }

/- WHAT THE LISTED PACKAGE-LEVEL VARIABLES READ AS WHEN THE CALL BEGINS. Each datum BY PROGRAM (the guide's laid-datum.mjs) off the statement by which the dump's own 'gosem.cut.vars' lays the variable. In a bare row this is a premise. The card (YtdaodcdbfaikjaaDoorCards.lean) ties it to the program's text. -/
def laid_unicode_utf8_acceptRanges {H : Type} : DataW H := .agg [.agg [.lit (.int .u8 128), .lit (.int .u8 191)], .agg [.lit (.int .u8 160), .lit (.int .u8 191)], .agg [.lit (.int .u8 128), .lit (.int .u8 159)], .agg [.lit (.int .u8 144), .lit (.int .u8 191)], .agg [.lit (.int .u8 128), .lit (.int .u8 143)], .agg [.lit (.int .u8 0), .lit (.int .u8 0)], .agg [.lit (.int .u8 0), .lit (.int .u8 0)], .agg [.lit (.int .u8 0), .lit (.int .u8 0)], .agg [.lit (.int .u8 0), .lit (.int .u8 0)], .agg [.lit (.int .u8 0), .lit (.int .u8 0)], .agg [.lit (.int .u8 0), .lit (.int .u8 0)], .agg [.lit (.int .u8 0), .lit (.int .u8 0)], .agg [.lit (.int .u8 0), .lit (.int .u8 0)], .agg [.lit (.int .u8 0), .lit (.int .u8 0)], .agg [.lit (.int .u8 0), .lit (.int .u8 0)], .agg [.lit (.int .u8 0), .lit (.int .u8 0)]]
/-- One of Go's own tables, pinned by name: the form's constant. -/
def laid_unicode_utf8_first : DataW Unit := Go.Pinned.utf8First

/-- 'platenlaw16.ShiftLines': WHATEVER THE INPUT: true; the input reads as it did. -/
def shiftLinesSpec : ChangeSpec := { name := "shiftLines", fn := fun _ => fun
  | [d1, d2, d3, d4, d5] => { results := [.lit (.bool true)], args := [d1, d2, d3, d4, d5] }
  | _ => none }
def shiftLinesRow : OpenClaim := { program := "ytdaodcdbfaikjaadoor", sum := "d141324a7fd5ccff49cc076148510a23da9053a7842f67e8e258938dbe71a2e9", func := "platen/platenlaw16.ShiftLines", spec := "shiftLines", named := ["unicode/utf8.first", "unicode/utf8.acceptRanges"], apart := false, laid := [("unicode/utf8.acceptRanges", laid_unicode_utf8_acceptRanges), ("unicode/utf8.first", laid_unicode_utf8_first)] }
def ShiftLinesSaid : Prop := shiftLinesRow.holds Tryd.pinned (OpenSpec.ofChange shiftLinesSpec)

/-- ITS FALSE NEIGHBOUR: 'it returns false'. Refute it at one input. -/
def shiftLinesWrong : ChangeSpec := { name := "shiftLines", fn := fun _ => fun
  | [d1, d2, d3, d4, d5] => { results := [.lit (.bool false)], args := [d1, d2, d3, d4, d5] }
  | _ => none }
def ShiftLinesWrongFalsely : Prop := shiftLinesRow.holds Tryd.pinned (OpenSpec.ofChange shiftLinesWrong)

/-- 'platenlaw16.ShiftBack': WHATEVER THE INPUT: true; the input reads as it did. -/
def shiftBackSpec : ChangeSpec := { name := "shiftBack", fn := fun _ => fun
  | [d1, d2, d3, d4, d5] => { results := [.lit (.bool true)], args := [d1, d2, d3, d4, d5] }
  | _ => none }
def shiftBackRow : OpenClaim := { program := "ytdaodcdbfaikjaadoor", sum := "d141324a7fd5ccff49cc076148510a23da9053a7842f67e8e258938dbe71a2e9", func := "platen/platenlaw16.ShiftBack", spec := "shiftBack", named := ["unicode/utf8.first", "unicode/utf8.acceptRanges"], apart := false, laid := [("unicode/utf8.acceptRanges", laid_unicode_utf8_acceptRanges), ("unicode/utf8.first", laid_unicode_utf8_first)] }
def ShiftBackSaid : Prop := shiftBackRow.holds Tryd.pinned (OpenSpec.ofChange shiftBackSpec)

/-- ITS FALSE NEIGHBOUR: 'it returns false'. Refute it at one input. -/
def shiftBackWrong : ChangeSpec := { name := "shiftBack", fn := fun _ => fun
  | [d1, d2, d3, d4, d5] => { results := [.lit (.bool false)], args := [d1, d2, d3, d4, d5] }
  | _ => none }
def ShiftBackWrongFalsely : Prop := shiftBackRow.holds Tryd.pinned (OpenSpec.ofChange shiftBackWrong)

/-- 'platenlaw16.ShiftAdds': WHATEVER THE INPUT: true; the input reads as it did. -/
def shiftAddsSpec : ChangeSpec := { name := "shiftAdds", fn := fun _ => fun
  | [d1, d2, d3, d4, d5, d6] => { results := [.lit (.bool true)], args := [d1, d2, d3, d4, d5, d6] }
  | _ => none }
def shiftAddsRow : OpenClaim := { program := "ytdaodcdbfaikjaadoor", sum := "d141324a7fd5ccff49cc076148510a23da9053a7842f67e8e258938dbe71a2e9", func := "platen/platenlaw16.ShiftAdds", spec := "shiftAdds", named := ["unicode/utf8.first", "unicode/utf8.acceptRanges"], apart := false, laid := [("unicode/utf8.acceptRanges", laid_unicode_utf8_acceptRanges), ("unicode/utf8.first", laid_unicode_utf8_first)] }
def ShiftAddsSaid : Prop := shiftAddsRow.holds Tryd.pinned (OpenSpec.ofChange shiftAddsSpec)

/-- ITS FALSE NEIGHBOUR: 'it returns false'. Refute it at one input. -/
def shiftAddsWrong : ChangeSpec := { name := "shiftAdds", fn := fun _ => fun
  | [d1, d2, d3, d4, d5, d6] => { results := [.lit (.bool false)], args := [d1, d2, d3, d4, d5, d6] }
  | _ => none }
def ShiftAddsWrongFalsely : Prop := shiftAddsRow.holds Tryd.pinned (OpenSpec.ofChange shiftAddsWrong)

/-- 'platenlaw16.ShiftColumns': WHATEVER THE INPUT: true; the input reads as it did. -/
def shiftColumnsSpec : ChangeSpec := { name := "shiftColumns", fn := fun _ => fun
  | [d1, d2, d3, d4, d5] => { results := [.lit (.bool true)], args := [d1, d2, d3, d4, d5] }
  | _ => none }
def shiftColumnsRow : OpenClaim := { program := "ytdaodcdbfaikjaadoor", sum := "d141324a7fd5ccff49cc076148510a23da9053a7842f67e8e258938dbe71a2e9", func := "platen/platenlaw16.ShiftColumns", spec := "shiftColumns", named := ["unicode/utf8.first", "unicode/utf8.acceptRanges"], apart := false, laid := [("unicode/utf8.acceptRanges", laid_unicode_utf8_acceptRanges), ("unicode/utf8.first", laid_unicode_utf8_first)] }
def ShiftColumnsSaid : Prop := shiftColumnsRow.holds Tryd.pinned (OpenSpec.ofChange shiftColumnsSpec)

/-- ITS FALSE NEIGHBOUR: 'it returns false'. Refute it at one input. -/
def shiftColumnsWrong : ChangeSpec := { name := "shiftColumns", fn := fun _ => fun
  | [d1, d2, d3, d4, d5] => { results := [.lit (.bool false)], args := [d1, d2, d3, d4, d5] }
  | _ => none }
def ShiftColumnsWrongFalsely : Prop := shiftColumnsRow.holds Tryd.pinned (OpenSpec.ofChange shiftColumnsWrong)

/-- 'platenlaw16.ShiftTexts': WHATEVER THE INPUT: true; the input reads as it did. -/
def shiftTextsSpec : ChangeSpec := { name := "shiftTexts", fn := fun _ => fun
  | [d1, d2, d3, d4, d5] => { results := [.lit (.bool true)], args := [d1, d2, d3, d4, d5] }
  | _ => none }
def shiftTextsRow : OpenClaim := { program := "ytdaodcdbfaikjaadoor", sum := "d141324a7fd5ccff49cc076148510a23da9053a7842f67e8e258938dbe71a2e9", func := "platen/platenlaw16.ShiftTexts", spec := "shiftTexts", inPlace := ["internal/bytealg.Count", "internal/bytealg.IndexByte", "internal/bytealg.Index"], named := ["unicode/utf8.first", "unicode/utf8.acceptRanges", "internal/bytealg.MaxLen"], apart := false, laid := [("unicode/utf8.acceptRanges", laid_unicode_utf8_acceptRanges), ("unicode/utf8.first", laid_unicode_utf8_first)] }
def ShiftTextsSaid : Prop := shiftTextsRow.holds Tryd.pinned (OpenSpec.ofChange shiftTextsSpec)

/-- ITS FALSE NEIGHBOUR: 'it returns false'. Refute it at one input. -/
def shiftTextsWrong : ChangeSpec := { name := "shiftTexts", fn := fun _ => fun
  | [d1, d2, d3, d4, d5] => { results := [.lit (.bool false)], args := [d1, d2, d3, d4, d5] }
  | _ => none }
def ShiftTextsWrongFalsely : Prop := shiftTextsRow.holds Tryd.pinned (OpenSpec.ofChange shiftTextsWrong)

/-- 'platenlaw16.ShiftStays': WHATEVER THE INPUT: true; the input reads as it did. -/
def shiftStaysSpec : ChangeSpec := { name := "shiftStays", fn := fun _ => fun
  | [d1, d2, d3, d4, d5] => { results := [.lit (.bool true)], args := [d1, d2, d3, d4, d5] }
  | _ => none }
def shiftStaysRow : OpenClaim := { program := "ytdaodcdbfaikjaadoor", sum := "d141324a7fd5ccff49cc076148510a23da9053a7842f67e8e258938dbe71a2e9", func := "platen/platenlaw16.ShiftStays", spec := "shiftStays", inPlace := ["internal/bytealg.Count", "internal/bytealg.IndexByte", "internal/bytealg.Index"], named := ["unicode/utf8.first", "unicode/utf8.acceptRanges", "internal/bytealg.MaxLen"], apart := false, laid := [("unicode/utf8.acceptRanges", laid_unicode_utf8_acceptRanges), ("unicode/utf8.first", laid_unicode_utf8_first)] }
def ShiftStaysSaid : Prop := shiftStaysRow.holds Tryd.pinned (OpenSpec.ofChange shiftStaysSpec)

/-- ITS FALSE NEIGHBOUR: 'it returns false'. Refute it at one input. -/
def shiftStaysWrong : ChangeSpec := { name := "shiftStays", fn := fun _ => fun
  | [d1, d2, d3, d4, d5] => { results := [.lit (.bool false)], args := [d1, d2, d3, d4, d5] }
  | _ => none }
def ShiftStaysWrongFalsely : Prop := shiftStaysRow.holds Tryd.pinned (OpenSpec.ofChange shiftStaysWrong)

/-- 'platenlaw16.ShiftLong': WHATEVER THE INPUT: true; the input reads as it did. -/
def shiftLongSpec : ChangeSpec := { name := "shiftLong", fn := fun _ => fun
  | [d1, d2] => { results := [.lit (.bool true)], args := [d1, d2] }
  | _ => none }
def shiftLongRow : OpenClaim := { program := "ytdaodcdbfaikjaadoor", sum := "d141324a7fd5ccff49cc076148510a23da9053a7842f67e8e258938dbe71a2e9", func := "platen/platenlaw16.ShiftLong", spec := "shiftLong", inPlace := ["internal/bytealg.Count", "internal/bytealg.IndexByte", "internal/bytealg.Index"], named := ["unicode/utf8.first", "unicode/utf8.acceptRanges", "internal/bytealg.MaxLen"], apart := false, laid := [("unicode/utf8.acceptRanges", laid_unicode_utf8_acceptRanges), ("unicode/utf8.first", laid_unicode_utf8_first)] }
def ShiftLongSaid : Prop := shiftLongRow.holds Tryd.pinned (OpenSpec.ofChange shiftLongSpec)

/-- ITS FALSE NEIGHBOUR: 'it returns false'. Refute it at one input. -/
def shiftLongWrong : ChangeSpec := { name := "shiftLong", fn := fun _ => fun
  | [d1, d2] => { results := [.lit (.bool false)], args := [d1, d2] }
  | _ => none }
def ShiftLongWrongFalsely : Prop := shiftLongRow.holds Tryd.pinned (OpenSpec.ofChange shiftLongWrong)

/- THE SECOND FORM. 'bulk': how many values and letters a reading holds, each counted each time it is reached (what is shared counts as often as it is met; a slice's spare places count too). A statement '..UptoSaid' is the law's where the arguments, and the package variables that the reading takes, are together of bulk at most 1048576: NARROWER than '..Said'. Prove '..Said' where nothing that the law and all that it calls make is longer than what came in: it says more and counts as full. Else prove '..UptoSaid'. A law counts once. -/
mutual
def uptoBulk {H : Type} : DataW H → Nat
  | .lit (.string bytes) => bytes.length + 1
  | .lit _ => 1
  | .nil => 1
  | .ptr d => uptoBulk d + 1
  | .slice elems spare => uptoBulkAll elems + uptoBulkAll spare + 1
  | .agg parts => uptoBulkAll parts + 1
  | .iface _ d => uptoBulk d + 1
  | .map entries => uptoBulkEntries entries + 1
  | .held _ => 1
def uptoBulkAll {H : Type} : List (DataW H) → Nat
  | [] => 0
  | d :: r => uptoBulk d + uptoBulkAll r
def uptoBulkEntries {H : Type} : List (Lit × DataW H) → Nat
  | [] => 0
  | x :: r => uptoBulkEntry x + uptoBulkEntries r
def uptoBulkEntry {H : Type} : Lit × DataW H → Nat
  | (.string bytes, d) => bytes.length + uptoBulk d + 1
  | (_, d) => uptoBulk d + 1
 end
def uptoSmall : (H : Type) → List (DataW H) → Bool := fun _ ds => decide (uptoBulkAll ds ≤ 1048576)
def OpenSpec.upto (s : _root_.Go.ChangeSpec) : _root_.Go.OpenSpec := { _root_.Go.OpenSpec.ofChange s with cond := some uptoSmall }

/-- 'platenlaw16.ShiftLines', WHERE WHAT IT READS IS OF BULK AT MOST 1048576: true; the input reads as it did. -/
def shiftLinesUptoRow : OpenClaim := { program := "ytdaodcdbfaikjaadoor", sum := "d141324a7fd5ccff49cc076148510a23da9053a7842f67e8e258938dbe71a2e9", func := "platen/platenlaw16.ShiftLines", spec := "shiftLines", named := ["unicode/utf8.first", "unicode/utf8.acceptRanges"], apart := false, laid := [("unicode/utf8.acceptRanges", laid_unicode_utf8_acceptRanges), ("unicode/utf8.first", laid_unicode_utf8_first)], narrowed := true }
def ShiftLinesUptoSaid : Prop := shiftLinesUptoRow.holds Tryd.pinned (OpenSpec.upto shiftLinesSpec)

/-- 'platenlaw16.ShiftBack', WHERE WHAT IT READS IS OF BULK AT MOST 1048576: true; the input reads as it did. -/
def shiftBackUptoRow : OpenClaim := { program := "ytdaodcdbfaikjaadoor", sum := "d141324a7fd5ccff49cc076148510a23da9053a7842f67e8e258938dbe71a2e9", func := "platen/platenlaw16.ShiftBack", spec := "shiftBack", named := ["unicode/utf8.first", "unicode/utf8.acceptRanges"], apart := false, laid := [("unicode/utf8.acceptRanges", laid_unicode_utf8_acceptRanges), ("unicode/utf8.first", laid_unicode_utf8_first)], narrowed := true }
def ShiftBackUptoSaid : Prop := shiftBackUptoRow.holds Tryd.pinned (OpenSpec.upto shiftBackSpec)

/-- 'platenlaw16.ShiftAdds', WHERE WHAT IT READS IS OF BULK AT MOST 1048576: true; the input reads as it did. -/
def shiftAddsUptoRow : OpenClaim := { program := "ytdaodcdbfaikjaadoor", sum := "d141324a7fd5ccff49cc076148510a23da9053a7842f67e8e258938dbe71a2e9", func := "platen/platenlaw16.ShiftAdds", spec := "shiftAdds", named := ["unicode/utf8.first", "unicode/utf8.acceptRanges"], apart := false, laid := [("unicode/utf8.acceptRanges", laid_unicode_utf8_acceptRanges), ("unicode/utf8.first", laid_unicode_utf8_first)], narrowed := true }
def ShiftAddsUptoSaid : Prop := shiftAddsUptoRow.holds Tryd.pinned (OpenSpec.upto shiftAddsSpec)

/-- 'platenlaw16.ShiftColumns', WHERE WHAT IT READS IS OF BULK AT MOST 1048576: true; the input reads as it did. -/
def shiftColumnsUptoRow : OpenClaim := { program := "ytdaodcdbfaikjaadoor", sum := "d141324a7fd5ccff49cc076148510a23da9053a7842f67e8e258938dbe71a2e9", func := "platen/platenlaw16.ShiftColumns", spec := "shiftColumns", named := ["unicode/utf8.first", "unicode/utf8.acceptRanges"], apart := false, laid := [("unicode/utf8.acceptRanges", laid_unicode_utf8_acceptRanges), ("unicode/utf8.first", laid_unicode_utf8_first)], narrowed := true }
def ShiftColumnsUptoSaid : Prop := shiftColumnsUptoRow.holds Tryd.pinned (OpenSpec.upto shiftColumnsSpec)

/-- 'platenlaw16.ShiftTexts', WHERE WHAT IT READS IS OF BULK AT MOST 1048576: true; the input reads as it did. -/
def shiftTextsUptoRow : OpenClaim := { program := "ytdaodcdbfaikjaadoor", sum := "d141324a7fd5ccff49cc076148510a23da9053a7842f67e8e258938dbe71a2e9", func := "platen/platenlaw16.ShiftTexts", spec := "shiftTexts", inPlace := ["internal/bytealg.Count", "internal/bytealg.IndexByte", "internal/bytealg.Index"], named := ["unicode/utf8.first", "unicode/utf8.acceptRanges", "internal/bytealg.MaxLen"], apart := false, laid := [("unicode/utf8.acceptRanges", laid_unicode_utf8_acceptRanges), ("unicode/utf8.first", laid_unicode_utf8_first)], narrowed := true }
def ShiftTextsUptoSaid : Prop := shiftTextsUptoRow.holds Tryd.pinned (OpenSpec.upto shiftTextsSpec)

/-- 'platenlaw16.ShiftStays', WHERE WHAT IT READS IS OF BULK AT MOST 1048576: true; the input reads as it did. -/
def shiftStaysUptoRow : OpenClaim := { program := "ytdaodcdbfaikjaadoor", sum := "d141324a7fd5ccff49cc076148510a23da9053a7842f67e8e258938dbe71a2e9", func := "platen/platenlaw16.ShiftStays", spec := "shiftStays", inPlace := ["internal/bytealg.Count", "internal/bytealg.IndexByte", "internal/bytealg.Index"], named := ["unicode/utf8.first", "unicode/utf8.acceptRanges", "internal/bytealg.MaxLen"], apart := false, laid := [("unicode/utf8.acceptRanges", laid_unicode_utf8_acceptRanges), ("unicode/utf8.first", laid_unicode_utf8_first)], narrowed := true }
def ShiftStaysUptoSaid : Prop := shiftStaysUptoRow.holds Tryd.pinned (OpenSpec.upto shiftStaysSpec)

/-- 'platenlaw16.ShiftLong', WHERE WHAT IT READS IS OF BULK AT MOST 1048576: true; the input reads as it did. -/
def shiftLongUptoRow : OpenClaim := { program := "ytdaodcdbfaikjaadoor", sum := "d141324a7fd5ccff49cc076148510a23da9053a7842f67e8e258938dbe71a2e9", func := "platen/platenlaw16.ShiftLong", spec := "shiftLong", inPlace := ["internal/bytealg.Count", "internal/bytealg.IndexByte", "internal/bytealg.Index"], named := ["unicode/utf8.first", "unicode/utf8.acceptRanges", "internal/bytealg.MaxLen"], apart := false, laid := [("unicode/utf8.acceptRanges", laid_unicode_utf8_acceptRanges), ("unicode/utf8.first", laid_unicode_utf8_first)], narrowed := true }
def ShiftLongUptoSaid : Prop := shiftLongUptoRow.holds Tryd.pinned (OpenSpec.upto shiftLongSpec)

end Rows
end Go.Proofs.YtdaodcdbfaikjaaDoor
