/-
  NARROWER THAN 'FOR EVERY INPUT', by the rows' own cells (each row's printed sentence says how): MotionKeys: laid · MotionPlaces: laid · MotionSigns: laid · MotionLines: laid · MotionWords: laid · MotionFinds: laid.
  DERIVED. THE GIVEN ROWS OF THIS SEAT. 6 by the template 'for every input the law returns true; each argument reads behind the call as it read before'; 0 by the template 'total and deterministic' (their statements: YtloafpnniooliaaDoorTotals.lean).
  GIVEN WITH THE SEED: the statements are not yours to turn. If you find one false, say at which input.
  Laid BY PROGRAM, IN A SANDBOX (cutbox-rows.mjs): the forced cells as the released guide's own fill.sh prints them over the translation 0aaa52ab8e545b2e… (all of the seat's roots in one cut). By AI agents, Wed Nov 11 2026. No macro, syntax, notation, axiom, sorry.
-/
import Derived.Test.YtloafpnniooliaaDoorChecked
import GoSem.PinnedTables
import GoSem.Claim
import GoSem.ClaimJoined
import GoSem.ClaimMapViews
import Derived.JoinedTies
import Derived.KernelRfl
namespace Go.Proofs.YtloafpnniooliaaDoor
/- THE CELL 'sum', in the pinned program and in every row, IS THE sha256 OF THE DUMP (.gsa) THAT YtloafpnniooliaaDoorProg.lean LOADS. Nothing in Lean hashes anything: it is a label: what it is worth is what the hold of that sum in a sandbox is worth. -/
noncomputable def Tryd.pinned : Pinned := { name := "ytloafpnniooliaadoor", sum := "0aaa52ab8e545b2eca129346048660d9ca1e702fddd6f6dfa0d938bb13f244e5", checked := Tryd.checked }
namespace Rows
def none {H : Type} : Left H := { results := [], args := [] }

/- WHAT THE LISTED PACKAGE-LEVEL VARIABLES READ AS WHEN THE CALL BEGINS. Each datum BY PROGRAM (the guide's laid-datum.mjs) off the statement by which the dump's own 'gosem.cut.vars' lays the variable. In a bare row this is a premise. The card (YtloafpnniooliaaDoorCards.lean) ties it to the program's text. -/
def laid_unicode_utf8_acceptRanges {H : Type} : DataW H := .agg [.agg [.lit (.int .u8 128), .lit (.int .u8 191)], .agg [.lit (.int .u8 160), .lit (.int .u8 191)], .agg [.lit (.int .u8 128), .lit (.int .u8 159)], .agg [.lit (.int .u8 144), .lit (.int .u8 191)], .agg [.lit (.int .u8 128), .lit (.int .u8 143)], .agg [.lit (.int .u8 0), .lit (.int .u8 0)], .agg [.lit (.int .u8 0), .lit (.int .u8 0)], .agg [.lit (.int .u8 0), .lit (.int .u8 0)], .agg [.lit (.int .u8 0), .lit (.int .u8 0)], .agg [.lit (.int .u8 0), .lit (.int .u8 0)], .agg [.lit (.int .u8 0), .lit (.int .u8 0)], .agg [.lit (.int .u8 0), .lit (.int .u8 0)], .agg [.lit (.int .u8 0), .lit (.int .u8 0)], .agg [.lit (.int .u8 0), .lit (.int .u8 0)], .agg [.lit (.int .u8 0), .lit (.int .u8 0)], .agg [.lit (.int .u8 0), .lit (.int .u8 0)]]
/-- One of Go's own tables, pinned by name: the form's constant. -/
def laid_unicode_utf8_first : DataW Unit := Go.Pinned.utf8First

/-- 'platenlaw19.MotionKeys': WHATEVER THE INPUT: true; the input reads as it did. -/
def motionKeysSpec : ChangeSpec := { name := "motionKeys", fn := fun _ => fun
  | [d1, d2, d3, d4] => { results := [.lit (.bool true)], args := [d1, d2, d3, d4] }
  | _ => none }
def motionKeysRow : OpenClaim := { program := "ytloafpnniooliaadoor", sum := "0aaa52ab8e545b2eca129346048660d9ca1e702fddd6f6dfa0d938bb13f244e5", func := "platen/platenlaw19.MotionKeys", spec := "motionKeys", inPlace := ["internal/bytealg.Count", "internal/bytealg.IndexByte", "internal/bytealg.Index"], named := ["unicode/utf8.first", "unicode/utf8.acceptRanges", "internal/bytealg.MaxLen"], apart := false, laid := [("unicode/utf8.acceptRanges", laid_unicode_utf8_acceptRanges), ("unicode/utf8.first", laid_unicode_utf8_first)] }
def MotionKeysSaid : Prop := motionKeysRow.holds Tryd.pinned (OpenSpec.ofChange motionKeysSpec)

/-- ITS FALSE NEIGHBOUR: 'it returns false'. Refute it at one input. -/
def motionKeysWrong : ChangeSpec := { name := "motionKeys", fn := fun _ => fun
  | [d1, d2, d3, d4] => { results := [.lit (.bool false)], args := [d1, d2, d3, d4] }
  | _ => none }
def MotionKeysWrongFalsely : Prop := motionKeysRow.holds Tryd.pinned (OpenSpec.ofChange motionKeysWrong)

/-- 'platenlaw19.MotionPlaces': WHATEVER THE INPUT: true; the input reads as it did. -/
def motionPlacesSpec : ChangeSpec := { name := "motionPlaces", fn := fun _ => fun
  | [d1, d2, d3, d4, d5] => { results := [.lit (.bool true)], args := [d1, d2, d3, d4, d5] }
  | _ => none }
def motionPlacesRow : OpenClaim := { program := "ytloafpnniooliaadoor", sum := "0aaa52ab8e545b2eca129346048660d9ca1e702fddd6f6dfa0d938bb13f244e5", func := "platen/platenlaw19.MotionPlaces", spec := "motionPlaces", inPlace := ["internal/bytealg.Count", "internal/bytealg.IndexByte", "internal/bytealg.Index"], named := ["unicode/utf8.first", "unicode/utf8.acceptRanges", "internal/bytealg.MaxLen"], apart := false, laid := [("unicode/utf8.acceptRanges", laid_unicode_utf8_acceptRanges), ("unicode/utf8.first", laid_unicode_utf8_first)] }
def MotionPlacesSaid : Prop := motionPlacesRow.holds Tryd.pinned (OpenSpec.ofChange motionPlacesSpec)

/-- ITS FALSE NEIGHBOUR: 'it returns false'. Refute it at one input. -/
def motionPlacesWrong : ChangeSpec := { name := "motionPlaces", fn := fun _ => fun
  | [d1, d2, d3, d4, d5] => { results := [.lit (.bool false)], args := [d1, d2, d3, d4, d5] }
  | _ => none }
def MotionPlacesWrongFalsely : Prop := motionPlacesRow.holds Tryd.pinned (OpenSpec.ofChange motionPlacesWrong)

/-- 'platenlaw19.MotionSigns': WHATEVER THE INPUT: true; the input reads as it did. -/
def motionSignsSpec : ChangeSpec := { name := "motionSigns", fn := fun _ => fun
  | [d1, d2, d3, d4] => { results := [.lit (.bool true)], args := [d1, d2, d3, d4] }
  | _ => none }
def motionSignsRow : OpenClaim := { program := "ytloafpnniooliaadoor", sum := "0aaa52ab8e545b2eca129346048660d9ca1e702fddd6f6dfa0d938bb13f244e5", func := "platen/platenlaw19.MotionSigns", spec := "motionSigns", inPlace := ["internal/bytealg.Count", "internal/bytealg.IndexByte", "internal/bytealg.Index"], named := ["unicode/utf8.first", "unicode/utf8.acceptRanges", "internal/bytealg.MaxLen"], apart := false, laid := [("unicode/utf8.acceptRanges", laid_unicode_utf8_acceptRanges), ("unicode/utf8.first", laid_unicode_utf8_first)] }
def MotionSignsSaid : Prop := motionSignsRow.holds Tryd.pinned (OpenSpec.ofChange motionSignsSpec)

/-- ITS FALSE NEIGHBOUR: 'it returns false'. Refute it at one input. -/
def motionSignsWrong : ChangeSpec := { name := "motionSigns", fn := fun _ => fun
  | [d1, d2, d3, d4] => { results := [.lit (.bool false)], args := [d1, d2, d3, d4] }
  | _ => none }
def MotionSignsWrongFalsely : Prop := motionSignsRow.holds Tryd.pinned (OpenSpec.ofChange motionSignsWrong)

/-- 'platenlaw19.MotionLines': WHATEVER THE INPUT: true; the input reads as it did. -/
def motionLinesSpec : ChangeSpec := { name := "motionLines", fn := fun _ => fun
  | [d1, d2, d3, d4] => { results := [.lit (.bool true)], args := [d1, d2, d3, d4] }
  | _ => none }
def motionLinesRow : OpenClaim := { program := "ytloafpnniooliaadoor", sum := "0aaa52ab8e545b2eca129346048660d9ca1e702fddd6f6dfa0d938bb13f244e5", func := "platen/platenlaw19.MotionLines", spec := "motionLines", inPlace := ["internal/bytealg.Count", "internal/bytealg.IndexByte", "internal/bytealg.Index"], named := ["unicode/utf8.first", "unicode/utf8.acceptRanges", "internal/bytealg.MaxLen"], apart := false, laid := [("unicode/utf8.acceptRanges", laid_unicode_utf8_acceptRanges), ("unicode/utf8.first", laid_unicode_utf8_first)] }
def MotionLinesSaid : Prop := motionLinesRow.holds Tryd.pinned (OpenSpec.ofChange motionLinesSpec)

/-- ITS FALSE NEIGHBOUR: 'it returns false'. Refute it at one input. -/
def motionLinesWrong : ChangeSpec := { name := "motionLines", fn := fun _ => fun
  | [d1, d2, d3, d4] => { results := [.lit (.bool false)], args := [d1, d2, d3, d4] }
  | _ => none }
def MotionLinesWrongFalsely : Prop := motionLinesRow.holds Tryd.pinned (OpenSpec.ofChange motionLinesWrong)

/-- 'platenlaw19.MotionWords': WHATEVER THE INPUT: true; the input reads as it did. -/
def motionWordsSpec : ChangeSpec := { name := "motionWords", fn := fun _ => fun
  | [d1, d2, d3, d4] => { results := [.lit (.bool true)], args := [d1, d2, d3, d4] }
  | _ => none }
def motionWordsRow : OpenClaim := { program := "ytloafpnniooliaadoor", sum := "0aaa52ab8e545b2eca129346048660d9ca1e702fddd6f6dfa0d938bb13f244e5", func := "platen/platenlaw19.MotionWords", spec := "motionWords", inPlace := ["internal/bytealg.Count", "internal/bytealg.IndexByte", "internal/bytealg.Index"], named := ["unicode/utf8.first", "unicode/utf8.acceptRanges", "internal/bytealg.MaxLen"], apart := false, laid := [("unicode/utf8.acceptRanges", laid_unicode_utf8_acceptRanges), ("unicode/utf8.first", laid_unicode_utf8_first)] }
def MotionWordsSaid : Prop := motionWordsRow.holds Tryd.pinned (OpenSpec.ofChange motionWordsSpec)

/-- ITS FALSE NEIGHBOUR: 'it returns false'. Refute it at one input. -/
def motionWordsWrong : ChangeSpec := { name := "motionWords", fn := fun _ => fun
  | [d1, d2, d3, d4] => { results := [.lit (.bool false)], args := [d1, d2, d3, d4] }
  | _ => none }
def MotionWordsWrongFalsely : Prop := motionWordsRow.holds Tryd.pinned (OpenSpec.ofChange motionWordsWrong)

/-- 'platenlaw19.MotionFinds': WHATEVER THE INPUT: true; the input reads as it did. -/
def motionFindsSpec : ChangeSpec := { name := "motionFinds", fn := fun _ => fun
  | [d1, d2, d3, d4] => { results := [.lit (.bool true)], args := [d1, d2, d3, d4] }
  | _ => none }
def motionFindsRow : OpenClaim := { program := "ytloafpnniooliaadoor", sum := "0aaa52ab8e545b2eca129346048660d9ca1e702fddd6f6dfa0d938bb13f244e5", func := "platen/platenlaw19.MotionFinds", spec := "motionFinds", inPlace := ["internal/bytealg.Count", "internal/bytealg.IndexByte", "internal/bytealg.Index"], named := ["unicode/utf8.first", "unicode/utf8.acceptRanges", "internal/bytealg.MaxLen"], apart := false, laid := [("unicode/utf8.acceptRanges", laid_unicode_utf8_acceptRanges), ("unicode/utf8.first", laid_unicode_utf8_first)] }
def MotionFindsSaid : Prop := motionFindsRow.holds Tryd.pinned (OpenSpec.ofChange motionFindsSpec)

/-- ITS FALSE NEIGHBOUR: 'it returns false'. Refute it at one input. -/
def motionFindsWrong : ChangeSpec := { name := "motionFinds", fn := fun _ => fun
  | [d1, d2, d3, d4] => { results := [.lit (.bool false)], args := [d1, d2, d3, d4] }
  | _ => none }
def MotionFindsWrongFalsely : Prop := motionFindsRow.holds Tryd.pinned (OpenSpec.ofChange motionFindsWrong)

/- THE SECOND FORM. 'bulk': how many values and letters a reading holds, each counted each time it is reached (what is shared counts as often as it is met; a slice's spare places count too). A statement '..UptoSaid' is the law's where the arguments, and the package variables that the reading takes, are together of bulk at most 1048576: NARROWER than '..Said'. Prove '..Said' where nothing that the law and all that it calls make is longer than what came in: it says more and counts as full. Else prove '..UptoSaid'. A law counts once. -/
mutual
def uptoBulk {H : Type} : DataW H → Nat
  | .lit (.string bytes) => bytes.length + 1
  | .lit _ => 1
  | .nil => 1
  | .ptr d => uptoBulk d + 1
  | .slice elems spare => uptoBulkAll elems + uptoBulkAll spare + 1
  | .agg parts => uptoBulkAll parts + 1
  | .iface _ d => uptoBulk d + 1
  | .map entries => uptoBulkEntries entries + 1
  | .held _ => 1
def uptoBulkAll {H : Type} : List (DataW H) → Nat
  | [] => 0
  | d :: r => uptoBulk d + uptoBulkAll r
def uptoBulkEntries {H : Type} : List (Lit × DataW H) → Nat
  | [] => 0
  | x :: r => uptoBulkEntry x + uptoBulkEntries r
def uptoBulkEntry {H : Type} : Lit × DataW H → Nat
  | (.string bytes, d) => bytes.length + uptoBulk d + 1
  | (_, d) => uptoBulk d + 1
 end
def uptoSmall : (H : Type) → List (DataW H) → Bool := fun _ ds => decide (uptoBulkAll ds ≤ 1048576)
def OpenSpec.upto (s : _root_.Go.ChangeSpec) : _root_.Go.OpenSpec := { _root_.Go.OpenSpec.ofChange s with cond := some uptoSmall }

/-- 'platenlaw19.MotionKeys', WHERE WHAT IT READS IS OF BULK AT MOST 1048576: true; the input reads as it did. -/
def motionKeysUptoRow : OpenClaim := { program := "ytloafpnniooliaadoor", sum := "0aaa52ab8e545b2eca129346048660d9ca1e702fddd6f6dfa0d938bb13f244e5", func := "platen/platenlaw19.MotionKeys", spec := "motionKeys", inPlace := ["internal/bytealg.Count", "internal/bytealg.IndexByte", "internal/bytealg.Index"], named := ["unicode/utf8.first", "unicode/utf8.acceptRanges", "internal/bytealg.MaxLen"], apart := false, laid := [("unicode/utf8.acceptRanges", laid_unicode_utf8_acceptRanges), ("unicode/utf8.first", laid_unicode_utf8_first)], narrowed := true }
def MotionKeysUptoSaid : Prop := motionKeysUptoRow.holds Tryd.pinned (OpenSpec.upto motionKeysSpec)

/-- 'platenlaw19.MotionPlaces', WHERE WHAT IT READS IS OF BULK AT MOST 1048576: true; the input reads as it did. -/
def motionPlacesUptoRow : OpenClaim := { program := "ytloafpnniooliaadoor", sum := "0aaa52ab8e545b2eca129346048660d9ca1e702fddd6f6dfa0d938bb13f244e5", func := "platen/platenlaw19.MotionPlaces", spec := "motionPlaces", inPlace := ["internal/bytealg.Count", "internal/bytealg.IndexByte", "internal/bytealg.Index"], named := ["unicode/utf8.first", "unicode/utf8.acceptRanges", "internal/bytealg.MaxLen"], apart := false, laid := [("unicode/utf8.acceptRanges", laid_unicode_utf8_acceptRanges), ("unicode/utf8.first", laid_unicode_utf8_first)], narrowed := true }
def MotionPlacesUptoSaid : Prop := motionPlacesUptoRow.holds Tryd.pinned (OpenSpec.upto motionPlacesSpec)

/-- 'platenlaw19.MotionSigns', WHERE WHAT IT READS IS OF BULK AT MOST 1048576: true; the input reads as it did. -/
def motionSignsUptoRow : OpenClaim := { program := "ytloafpnniooliaadoor", sum := "0aaa52ab8e545b2eca129346048660d9ca1e702fddd6f6dfa0d938bb13f244e5", func := "platen/platenlaw19.MotionSigns", spec := "motionSigns", inPlace := ["internal/bytealg.Count", "internal/bytealg.IndexByte", "internal/bytealg.Index"], named := ["unicode/utf8.first", "unicode/utf8.acceptRanges", "internal/bytealg.MaxLen"], apart := false, laid := [("unicode/utf8.acceptRanges", laid_unicode_utf8_acceptRanges), ("unicode/utf8.first", laid_unicode_utf8_first)], narrowed := true }
def MotionSignsUptoSaid : Prop := motionSignsUptoRow.holds Tryd.pinned (OpenSpec.upto motionSignsSpec)

/-- 'platenlaw19.MotionLines', WHERE WHAT IT READS IS OF BULK AT MOST 1048576: true; the input reads as it did. -/
def motionLinesUptoRow : OpenClaim := { program := "ytloafpnniooliaadoor", sum := "0aaa52ab8e545b2eca129346048660d9ca1e702fddd6f6dfa0d938bb13f244e5", func := "platen/platenlaw19.MotionLines", spec := "motionLines", inPlace := ["internal/bytealg.Count", "internal/bytealg.IndexByte", "internal/bytealg.Index"], named := ["unicode/utf8.first", "unicode/utf8.acceptRanges", "internal/bytealg.MaxLen"], apart := false, laid := [("unicode/utf8.acceptRanges", laid_unicode_utf8_acceptRanges), ("unicode/utf8.first", laid_unicode_utf8_first)], narrowed := true }
def MotionLinesUptoSaid : Prop := motionLinesUptoRow.holds Tryd.pinned (OpenSpec.upto motionLinesSpec)

/-- 'platenlaw19.MotionWords', WHERE WHAT IT READS IS OF BULK AT MOST 1048576: true; the input reads as it did. -/
def motionWordsUptoRow : OpenClaim := { program := "ytloafpnniooliaadoor", sum := "0aaa52ab8e545b2eca129346048660d9ca1e702fddd6f6dfa0d938bb13f244e5", func := "platen/platenlaw19.MotionWords", spec := "motionWords", inPlace := ["internal/bytealg.Count", "internal/bytealg.IndexByte", "internal/bytealg.Index"], named := ["unicode/utf8.first", "unicode/utf8.acceptRanges", "internal/bytealg.MaxLen"], apart := false, laid := [("unicode/utf8.acceptRanges", laid_unicode_utf8_acceptRanges), ("unicode/utf8.first", laid_unicode_utf8_first)], narrowed := true }
def MotionWordsUptoSaid : Prop := motionWordsUptoRow.holds Tryd.pinned (OpenSpec.upto motionWordsSpec)

/-- 'platenlaw19.MotionFinds', WHERE WHAT IT READS IS OF BULK AT MOST 1048576: true; the input reads as it did. -/
def motionFindsUptoRow : OpenClaim := { program := "ytloafpnniooliaadoor", sum := "0aaa52ab8e545b2eca129346048660d9ca1e702fddd6f6dfa0d938bb13f244e5", func := "platen/platenlaw19.MotionFinds", spec := "motionFinds", inPlace := ["internal/bytealg.Count", "internal/bytealg.IndexByte", "internal/bytealg.Index"], named := ["unicode/utf8.first", "unicode/utf8.acceptRanges", "internal/bytealg.MaxLen"], apart := false, laid := [("unicode/utf8.acceptRanges", laid_unicode_utf8_acceptRanges), ("unicode/utf8.first", laid_unicode_utf8_first)], narrowed := true }
def MotionFindsUptoSaid : Prop := motionFindsUptoRow.holds Tryd.pinned (OpenSpec.upto motionFindsSpec)

end Rows
end Go.Proofs.YtloafpnniooliaaDoor
