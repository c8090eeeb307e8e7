/-
  NARROWER THAN 'FOR EVERY INPUT', by the rows' own cells (each row's printed sentence says how): LinesCounts: laid · LinesSpans: laid · LinesColumns: laid · LinesGoOn: laid · LinesIndents: laid · LinesWholes: laid · LinesWithin: laid · LinesSplits: laid.
  DERIVED. THE GIVEN ROWS OF THIS SEAT. 8 by the template 'for every input the law returns true; each argument reads behind the call as it read before'; 0 by the template 'total and deterministic' (their statements: YtlpcibpeakmmaaaDoorTotals.lean).
  GIVEN WITH THE SEED: the statements are not yours to turn. If you find one false, say at which input.
  Laid BY PROGRAM, IN A SANDBOX (cutbox-rows.mjs): the forced cells as the released guide's own fill.sh prints them over the translation d27277eb13471a91… (all of the seat's roots in one cut). By AI agents, Wed Nov 11 2026. No macro, syntax, notation, axiom, sorry.
-/
import Derived.Test.YtlpcibpeakmmaaaDoorChecked
import GoSem.PinnedTables
import GoSem.Claim
import GoSem.ClaimJoined
import GoSem.ClaimMapViews
import Derived.JoinedTies
import Derived.KernelRfl
namespace Go.Proofs.YtlpcibpeakmmaaaDoor
/- THE CELL 'sum', in the pinned program and in every row, IS THE sha256 OF THE DUMP (.gsa) THAT YtlpcibpeakmmaaaDoorProg.lean LOADS. Nothing in Lean hashes anything: it is a label: what it is worth is what the hold of that sum in a sandbox is worth. -/
noncomputable def Tryd.pinned : Pinned := { name := "ytlpcibpeakmmaaadoor", sum := "d27277eb13471a91325f73b85926a294c3fe6e6a5bfb2f9ff630e5cfc8e287bf", checked := Tryd.checked }
namespace Rows
def none {H : Type} : Left H := { results := [], args := [] }

/- WHAT THE LISTED PACKAGE-LEVEL VARIABLES READ AS WHEN THE CALL BEGINS. Each datum BY PROGRAM (the guide's laid-datum.mjs) off the statement by which the dump's own 'gosem.cut.vars' lays the variable. In a bare row this is a premise. The card (YtlpcibpeakmmaaaDoorCards.lean) ties it to the program's text. -/
def laid_unicode_utf8_acceptRanges {H : Type} : DataW H := .agg [.agg [.lit (.int .u8 128), .lit (.int .u8 191)], .agg [.lit (.int .u8 160), .lit (.int .u8 191)], .agg [.lit (.int .u8 128), .lit (.int .u8 159)], .agg [.lit (.int .u8 144), .lit (.int .u8 191)], .agg [.lit (.int .u8 128), .lit (.int .u8 143)], .agg [.lit (.int .u8 0), .lit (.int .u8 0)], .agg [.lit (.int .u8 0), .lit (.int .u8 0)], .agg [.lit (.int .u8 0), .lit (.int .u8 0)], .agg [.lit (.int .u8 0), .lit (.int .u8 0)], .agg [.lit (.int .u8 0), .lit (.int .u8 0)], .agg [.lit (.int .u8 0), .lit (.int .u8 0)], .agg [.lit (.int .u8 0), .lit (.int .u8 0)], .agg [.lit (.int .u8 0), .lit (.int .u8 0)], .agg [.lit (.int .u8 0), .lit (.int .u8 0)], .agg [.lit (.int .u8 0), .lit (.int .u8 0)], .agg [.lit (.int .u8 0), .lit (.int .u8 0)]]
/-- One of Go's own tables, pinned by name: the form's constant. -/
def laid_unicode_utf8_first : DataW Unit := Go.Pinned.utf8First

/-- 'platenlaw03.LinesCounts': WHATEVER THE INPUT: true; the input reads as it did. -/
def linesCountsSpec : ChangeSpec := { name := "linesCounts", fn := fun _ => fun
  | [d1, d2] => { results := [.lit (.bool true)], args := [d1, d2] }
  | _ => none }
def linesCountsRow : OpenClaim := { program := "ytlpcibpeakmmaaadoor", sum := "d27277eb13471a91325f73b85926a294c3fe6e6a5bfb2f9ff630e5cfc8e287bf", func := "platen/platenlaw03.LinesCounts", spec := "linesCounts", inPlace := ["internal/bytealg.IndexByte", "internal/bytealg.Count", "internal/bytealg.Index"], named := ["internal/bytealg.MaxLen", "unicode/utf8.first", "unicode/utf8.acceptRanges"], apart := false, laid := [("unicode/utf8.acceptRanges", laid_unicode_utf8_acceptRanges), ("unicode/utf8.first", laid_unicode_utf8_first)] }
def LinesCountsSaid : Prop := linesCountsRow.holds Tryd.pinned (OpenSpec.ofChange linesCountsSpec)

/-- ITS FALSE NEIGHBOUR: 'it returns false'. Refute it at one input. -/
def linesCountsWrong : ChangeSpec := { name := "linesCounts", fn := fun _ => fun
  | [d1, d2] => { results := [.lit (.bool false)], args := [d1, d2] }
  | _ => none }
def LinesCountsWrongFalsely : Prop := linesCountsRow.holds Tryd.pinned (OpenSpec.ofChange linesCountsWrong)

/-- 'platenlaw03.LinesSpans': WHATEVER THE INPUT: true; the input reads as it did. -/
def linesSpansSpec : ChangeSpec := { name := "linesSpans", fn := fun _ => fun
  | [d1, d2] => { results := [.lit (.bool true)], args := [d1, d2] }
  | _ => none }
def linesSpansRow : OpenClaim := { program := "ytlpcibpeakmmaaadoor", sum := "d27277eb13471a91325f73b85926a294c3fe6e6a5bfb2f9ff630e5cfc8e287bf", func := "platen/platenlaw03.LinesSpans", spec := "linesSpans", inPlace := ["internal/bytealg.IndexByte", "internal/bytealg.Count", "internal/bytealg.Index"], named := ["internal/bytealg.MaxLen", "unicode/utf8.first", "unicode/utf8.acceptRanges"], apart := false, laid := [("unicode/utf8.acceptRanges", laid_unicode_utf8_acceptRanges), ("unicode/utf8.first", laid_unicode_utf8_first)] }
def LinesSpansSaid : Prop := linesSpansRow.holds Tryd.pinned (OpenSpec.ofChange linesSpansSpec)

/-- ITS FALSE NEIGHBOUR: 'it returns false'. Refute it at one input. -/
def linesSpansWrong : ChangeSpec := { name := "linesSpans", fn := fun _ => fun
  | [d1, d2] => { results := [.lit (.bool false)], args := [d1, d2] }
  | _ => none }
def LinesSpansWrongFalsely : Prop := linesSpansRow.holds Tryd.pinned (OpenSpec.ofChange linesSpansWrong)

/-- 'platenlaw03.LinesColumns': WHATEVER THE INPUT: true; the input reads as it did. -/
def linesColumnsSpec : ChangeSpec := { name := "linesColumns", fn := fun _ => fun
  | [d1, d2, d3] => { results := [.lit (.bool true)], args := [d1, d2, d3] }
  | _ => none }
def linesColumnsRow : OpenClaim := { program := "ytlpcibpeakmmaaadoor", sum := "d27277eb13471a91325f73b85926a294c3fe6e6a5bfb2f9ff630e5cfc8e287bf", func := "platen/platenlaw03.LinesColumns", spec := "linesColumns", inPlace := ["internal/bytealg.IndexByte", "internal/bytealg.Count", "internal/bytealg.Index"], named := ["internal/bytealg.MaxLen", "unicode/utf8.first", "unicode/utf8.acceptRanges"], apart := false, laid := [("unicode/utf8.acceptRanges", laid_unicode_utf8_acceptRanges), ("unicode/utf8.first", laid_unicode_utf8_first)] }
def LinesColumnsSaid : Prop := linesColumnsRow.holds Tryd.pinned (OpenSpec.ofChange linesColumnsSpec)

/-- ITS FALSE NEIGHBOUR: 'it returns false'. Refute it at one input. -/
def linesColumnsWrong : ChangeSpec := { name := "linesColumns", fn := fun _ => fun
  | [d1, d2, d3] => { results := [.lit (.bool false)], args := [d1, d2, d3] }
  | _ => none }
def LinesColumnsWrongFalsely : Prop := linesColumnsRow.holds Tryd.pinned (OpenSpec.ofChange linesColumnsWrong)

/-- 'platenlaw03.LinesGoOn': WHATEVER THE INPUT: true; the input reads as it did. -/
def linesGoOnSpec : ChangeSpec := { name := "linesGoOn", fn := fun _ => fun
  | [d1, d2, d3] => { results := [.lit (.bool true)], args := [d1, d2, d3] }
  | _ => none }
def linesGoOnRow : OpenClaim := { program := "ytlpcibpeakmmaaadoor", sum := "d27277eb13471a91325f73b85926a294c3fe6e6a5bfb2f9ff630e5cfc8e287bf", func := "platen/platenlaw03.LinesGoOn", spec := "linesGoOn", inPlace := ["internal/bytealg.IndexByte", "internal/bytealg.Count", "internal/bytealg.Index"], named := ["internal/bytealg.MaxLen", "unicode/utf8.first", "unicode/utf8.acceptRanges"], apart := false, laid := [("unicode/utf8.acceptRanges", laid_unicode_utf8_acceptRanges), ("unicode/utf8.first", laid_unicode_utf8_first)] }
def LinesGoOnSaid : Prop := linesGoOnRow.holds Tryd.pinned (OpenSpec.ofChange linesGoOnSpec)

/-- ITS FALSE NEIGHBOUR: 'it returns false'. Refute it at one input. -/
def linesGoOnWrong : ChangeSpec := { name := "linesGoOn", fn := fun _ => fun
  | [d1, d2, d3] => { results := [.lit (.bool false)], args := [d1, d2, d3] }
  | _ => none }
def LinesGoOnWrongFalsely : Prop := linesGoOnRow.holds Tryd.pinned (OpenSpec.ofChange linesGoOnWrong)

/-- 'platenlaw03.LinesIndents': WHATEVER THE INPUT: true; the input reads as it did. -/
def linesIndentsSpec : ChangeSpec := { name := "linesIndents", fn := fun _ => fun
  | [d] => { results := [.lit (.bool true)], args := [d] }
  | _ => none }
def linesIndentsRow : OpenClaim := { program := "ytlpcibpeakmmaaadoor", sum := "d27277eb13471a91325f73b85926a294c3fe6e6a5bfb2f9ff630e5cfc8e287bf", func := "platen/platenlaw03.LinesIndents", spec := "linesIndents", inPlace := ["internal/bytealg.IndexByte", "internal/bytealg.Count", "internal/bytealg.Index"], named := ["internal/bytealg.MaxLen", "unicode/utf8.first", "unicode/utf8.acceptRanges"], apart := false, laid := [("unicode/utf8.acceptRanges", laid_unicode_utf8_acceptRanges), ("unicode/utf8.first", laid_unicode_utf8_first)] }
def LinesIndentsSaid : Prop := linesIndentsRow.holds Tryd.pinned (OpenSpec.ofChange linesIndentsSpec)

/-- ITS FALSE NEIGHBOUR: 'it returns false'. Refute it at one input. -/
def linesIndentsWrong : ChangeSpec := { name := "linesIndents", fn := fun _ => fun
  | [d] => { results := [.lit (.bool false)], args := [d] }
  | _ => none }
def LinesIndentsWrongFalsely : Prop := linesIndentsRow.holds Tryd.pinned (OpenSpec.ofChange linesIndentsWrong)

/-- 'platenlaw03.LinesWholes': WHATEVER THE INPUT: true; the input reads as it did. -/
def linesWholesSpec : ChangeSpec := { name := "linesWholes", fn := fun _ => fun
  | [d1, d2, d3] => { results := [.lit (.bool true)], args := [d1, d2, d3] }
  | _ => none }
def linesWholesRow : OpenClaim := { program := "ytlpcibpeakmmaaadoor", sum := "d27277eb13471a91325f73b85926a294c3fe6e6a5bfb2f9ff630e5cfc8e287bf", func := "platen/platenlaw03.LinesWholes", spec := "linesWholes", inPlace := ["internal/bytealg.IndexByte", "internal/bytealg.Count", "internal/bytealg.Index"], named := ["internal/bytealg.MaxLen", "unicode/utf8.first", "unicode/utf8.acceptRanges"], apart := false, laid := [("unicode/utf8.acceptRanges", laid_unicode_utf8_acceptRanges), ("unicode/utf8.first", laid_unicode_utf8_first)] }
def LinesWholesSaid : Prop := linesWholesRow.holds Tryd.pinned (OpenSpec.ofChange linesWholesSpec)

/-- ITS FALSE NEIGHBOUR: 'it returns false'. Refute it at one input. -/
def linesWholesWrong : ChangeSpec := { name := "linesWholes", fn := fun _ => fun
  | [d1, d2, d3] => { results := [.lit (.bool false)], args := [d1, d2, d3] }
  | _ => none }
def LinesWholesWrongFalsely : Prop := linesWholesRow.holds Tryd.pinned (OpenSpec.ofChange linesWholesWrong)

/-- 'platenlaw03.LinesWithin': WHATEVER THE INPUT: true; the input reads as it did. -/
def linesWithinSpec : ChangeSpec := { name := "linesWithin", fn := fun _ => fun
  | [d1, d2] => { results := [.lit (.bool true)], args := [d1, d2] }
  | _ => none }
def linesWithinRow : OpenClaim := { program := "ytlpcibpeakmmaaadoor", sum := "d27277eb13471a91325f73b85926a294c3fe6e6a5bfb2f9ff630e5cfc8e287bf", func := "platen/platenlaw03.LinesWithin", spec := "linesWithin", inPlace := ["internal/bytealg.IndexByte", "internal/bytealg.Count", "internal/bytealg.Index"], named := ["internal/bytealg.MaxLen", "unicode/utf8.first", "unicode/utf8.acceptRanges"], apart := false, laid := [("unicode/utf8.acceptRanges", laid_unicode_utf8_acceptRanges), ("unicode/utf8.first", laid_unicode_utf8_first)] }
def LinesWithinSaid : Prop := linesWithinRow.holds Tryd.pinned (OpenSpec.ofChange linesWithinSpec)

/-- ITS FALSE NEIGHBOUR: 'it returns false'. Refute it at one input. -/
def linesWithinWrong : ChangeSpec := { name := "linesWithin", fn := fun _ => fun
  | [d1, d2] => { results := [.lit (.bool false)], args := [d1, d2] }
  | _ => none }
def LinesWithinWrongFalsely : Prop := linesWithinRow.holds Tryd.pinned (OpenSpec.ofChange linesWithinWrong)

/-- 'platenlaw03.LinesSplits': WHATEVER THE INPUT: true; the input reads as it did. -/
def linesSplitsSpec : ChangeSpec := { name := "linesSplits", fn := fun _ => fun
  | [d] => { results := [.lit (.bool true)], args := [d] }
  | _ => none }
def linesSplitsRow : OpenClaim := { program := "ytlpcibpeakmmaaadoor", sum := "d27277eb13471a91325f73b85926a294c3fe6e6a5bfb2f9ff630e5cfc8e287bf", func := "platen/platenlaw03.LinesSplits", spec := "linesSplits", inPlace := ["internal/bytealg.IndexByte", "internal/bytealg.Count", "internal/bytealg.Index"], named := ["internal/bytealg.MaxLen", "unicode/utf8.first", "unicode/utf8.acceptRanges"], apart := false, laid := [("unicode/utf8.acceptRanges", laid_unicode_utf8_acceptRanges), ("unicode/utf8.first", laid_unicode_utf8_first)] }
def LinesSplitsSaid : Prop := linesSplitsRow.holds Tryd.pinned (OpenSpec.ofChange linesSplitsSpec)

/-- ITS FALSE NEIGHBOUR: 'it returns false'. Refute it at one input. -/
def linesSplitsWrong : ChangeSpec := { name := "linesSplits", fn := fun _ => fun
  | [d] => { results := [.lit (.bool false)], args := [d] }
  | _ => none }
def LinesSplitsWrongFalsely : Prop := linesSplitsRow.holds Tryd.pinned (OpenSpec.ofChange linesSplitsWrong)

/- THE SECOND FORM. 'bulk': how many values and letters a reading holds, each counted each time it is reached (what is shared counts as often as it is met; a slice's spare places count too). A statement '..UptoSaid' is the law's where the arguments, and the package variables that the reading takes, are together of bulk at most 1048576: NARROWER than '..Said'. Prove '..Said' where nothing that the law and all that it calls make is longer than what came in: it says more and counts as full. Else prove '..UptoSaid'. A law counts once. -/
mutual
def uptoBulk {H : Type} : DataW H → Nat
  | .lit (.string bytes) => bytes.length + 1
  | .lit _ => 1
  | .nil => 1
  | .ptr d => uptoBulk d + 1
  | .slice elems spare => uptoBulkAll elems + uptoBulkAll spare + 1
  | .agg parts => uptoBulkAll parts + 1
  | .iface _ d => uptoBulk d + 1
  | .map entries => uptoBulkEntries entries + 1
  | .held _ => 1
def uptoBulkAll {H : Type} : List (DataW H) → Nat
  | [] => 0
  | d :: r => uptoBulk d + uptoBulkAll r
def uptoBulkEntries {H : Type} : List (Lit × DataW H) → Nat
  | [] => 0
  | x :: r => uptoBulkEntry x + uptoBulkEntries r
def uptoBulkEntry {H : Type} : Lit × DataW H → Nat
  | (.string bytes, d) => bytes.length + uptoBulk d + 1
  | (_, d) => uptoBulk d + 1
 end
def uptoSmall : (H : Type) → List (DataW H) → Bool := fun _ ds => decide (uptoBulkAll ds ≤ 1048576)
def OpenSpec.upto (s : _root_.Go.ChangeSpec) : _root_.Go.OpenSpec := { _root_.Go.OpenSpec.ofChange s with cond := some uptoSmall }

/-- 'platenlaw03.LinesCounts', WHERE WHAT IT READS IS OF BULK AT MOST 1048576: true; the input reads as it did. -/
def linesCountsUptoRow : OpenClaim := { program := "ytlpcibpeakmmaaadoor", sum := "d27277eb13471a91325f73b85926a294c3fe6e6a5bfb2f9ff630e5cfc8e287bf", func := "platen/platenlaw03.LinesCounts", spec := "linesCounts", inPlace := ["internal/bytealg.IndexByte", "internal/bytealg.Count", "internal/bytealg.Index"], named := ["internal/bytealg.MaxLen", "unicode/utf8.first", "unicode/utf8.acceptRanges"], apart := false, laid := [("unicode/utf8.acceptRanges", laid_unicode_utf8_acceptRanges), ("unicode/utf8.first", laid_unicode_utf8_first)], narrowed := true }
def LinesCountsUptoSaid : Prop := linesCountsUptoRow.holds Tryd.pinned (OpenSpec.upto linesCountsSpec)

/-- 'platenlaw03.LinesSpans', WHERE WHAT IT READS IS OF BULK AT MOST 1048576: true; the input reads as it did. -/
def linesSpansUptoRow : OpenClaim := { program := "ytlpcibpeakmmaaadoor", sum := "d27277eb13471a91325f73b85926a294c3fe6e6a5bfb2f9ff630e5cfc8e287bf", func := "platen/platenlaw03.LinesSpans", spec := "linesSpans", inPlace := ["internal/bytealg.IndexByte", "internal/bytealg.Count", "internal/bytealg.Index"], named := ["internal/bytealg.MaxLen", "unicode/utf8.first", "unicode/utf8.acceptRanges"], apart := false, laid := [("unicode/utf8.acceptRanges", laid_unicode_utf8_acceptRanges), ("unicode/utf8.first", laid_unicode_utf8_first)], narrowed := true }
def LinesSpansUptoSaid : Prop := linesSpansUptoRow.holds Tryd.pinned (OpenSpec.upto linesSpansSpec)

/-- 'platenlaw03.LinesColumns', WHERE WHAT IT READS IS OF BULK AT MOST 1048576: true; the input reads as it did. -/
def linesColumnsUptoRow : OpenClaim := { program := "ytlpcibpeakmmaaadoor", sum := "d27277eb13471a91325f73b85926a294c3fe6e6a5bfb2f9ff630e5cfc8e287bf", func := "platen/platenlaw03.LinesColumns", spec := "linesColumns", inPlace := ["internal/bytealg.IndexByte", "internal/bytealg.Count", "internal/bytealg.Index"], named := ["internal/bytealg.MaxLen", "unicode/utf8.first", "unicode/utf8.acceptRanges"], apart := false, laid := [("unicode/utf8.acceptRanges", laid_unicode_utf8_acceptRanges), ("unicode/utf8.first", laid_unicode_utf8_first)], narrowed := true }
def LinesColumnsUptoSaid : Prop := linesColumnsUptoRow.holds Tryd.pinned (OpenSpec.upto linesColumnsSpec)

/-- 'platenlaw03.LinesGoOn', WHERE WHAT IT READS IS OF BULK AT MOST 1048576: true; the input reads as it did. -/
def linesGoOnUptoRow : OpenClaim := { program := "ytlpcibpeakmmaaadoor", sum := "d27277eb13471a91325f73b85926a294c3fe6e6a5bfb2f9ff630e5cfc8e287bf", func := "platen/platenlaw03.LinesGoOn", spec := "linesGoOn", inPlace := ["internal/bytealg.IndexByte", "internal/bytealg.Count", "internal/bytealg.Index"], named := ["internal/bytealg.MaxLen", "unicode/utf8.first", "unicode/utf8.acceptRanges"], apart := false, laid := [("unicode/utf8.acceptRanges", laid_unicode_utf8_acceptRanges), ("unicode/utf8.first", laid_unicode_utf8_first)], narrowed := true }
def LinesGoOnUptoSaid : Prop := linesGoOnUptoRow.holds Tryd.pinned (OpenSpec.upto linesGoOnSpec)

/-- 'platenlaw03.LinesIndents', WHERE WHAT IT READS IS OF BULK AT MOST 1048576: true; the input reads as it did. -/
def linesIndentsUptoRow : OpenClaim := { program := "ytlpcibpeakmmaaadoor", sum := "d27277eb13471a91325f73b85926a294c3fe6e6a5bfb2f9ff630e5cfc8e287bf", func := "platen/platenlaw03.LinesIndents", spec := "linesIndents", inPlace := ["internal/bytealg.IndexByte", "internal/bytealg.Count", "internal/bytealg.Index"], named := ["internal/bytealg.MaxLen", "unicode/utf8.first", "unicode/utf8.acceptRanges"], apart := false, laid := [("unicode/utf8.acceptRanges", laid_unicode_utf8_acceptRanges), ("unicode/utf8.first", laid_unicode_utf8_first)], narrowed := true }
def LinesIndentsUptoSaid : Prop := linesIndentsUptoRow.holds Tryd.pinned (OpenSpec.upto linesIndentsSpec)

/-- 'platenlaw03.LinesWholes', WHERE WHAT IT READS IS OF BULK AT MOST 1048576: true; the input reads as it did. -/
def linesWholesUptoRow : OpenClaim := { program := "ytlpcibpeakmmaaadoor", sum := "d27277eb13471a91325f73b85926a294c3fe6e6a5bfb2f9ff630e5cfc8e287bf", func := "platen/platenlaw03.LinesWholes", spec := "linesWholes", inPlace := ["internal/bytealg.IndexByte", "internal/bytealg.Count", "internal/bytealg.Index"], named := ["internal/bytealg.MaxLen", "unicode/utf8.first", "unicode/utf8.acceptRanges"], apart := false, laid := [("unicode/utf8.acceptRanges", laid_unicode_utf8_acceptRanges), ("unicode/utf8.first", laid_unicode_utf8_first)], narrowed := true }
def LinesWholesUptoSaid : Prop := linesWholesUptoRow.holds Tryd.pinned (OpenSpec.upto linesWholesSpec)

/-- 'platenlaw03.LinesWithin', WHERE WHAT IT READS IS OF BULK AT MOST 1048576: true; the input reads as it did. -/
def linesWithinUptoRow : OpenClaim := { program := "ytlpcibpeakmmaaadoor", sum := "d27277eb13471a91325f73b85926a294c3fe6e6a5bfb2f9ff630e5cfc8e287bf", func := "platen/platenlaw03.LinesWithin", spec := "linesWithin", inPlace := ["internal/bytealg.IndexByte", "internal/bytealg.Count", "internal/bytealg.Index"], named := ["internal/bytealg.MaxLen", "unicode/utf8.first", "unicode/utf8.acceptRanges"], apart := false, laid := [("unicode/utf8.acceptRanges", laid_unicode_utf8_acceptRanges), ("unicode/utf8.first", laid_unicode_utf8_first)], narrowed := true }
def LinesWithinUptoSaid : Prop := linesWithinUptoRow.holds Tryd.pinned (OpenSpec.upto linesWithinSpec)

/-- 'platenlaw03.LinesSplits', WHERE WHAT IT READS IS OF BULK AT MOST 1048576: true; the input reads as it did. -/
def linesSplitsUptoRow : OpenClaim := { program := "ytlpcibpeakmmaaadoor", sum := "d27277eb13471a91325f73b85926a294c3fe6e6a5bfb2f9ff630e5cfc8e287bf", func := "platen/platenlaw03.LinesSplits", spec := "linesSplits", inPlace := ["internal/bytealg.IndexByte", "internal/bytealg.Count", "internal/bytealg.Index"], named := ["internal/bytealg.MaxLen", "unicode/utf8.first", "unicode/utf8.acceptRanges"], apart := false, laid := [("unicode/utf8.acceptRanges", laid_unicode_utf8_acceptRanges), ("unicode/utf8.first", laid_unicode_utf8_first)], narrowed := true }
def LinesSplitsUptoSaid : Prop := linesSplitsUptoRow.holds Tryd.pinned (OpenSpec.upto linesSplitsSpec)

end Rows
end Go.Proofs.YtlpcibpeakmmaaaDoor
