/- The decoder's two tables as this program's memory holds them, and what Go's decoder tells of a list of bytes. -/
import Derived.Test.YtloafpnniooliaaDoorWMore
import Derived.Test.YtloafpnniooliaaDoorProg
import Derived.Below
import Derived.Lib.DecodeNEq
namespace Go.Proofs.YtloafpnniooliaaDoor.Pa
open Go Go.RowKit


/-- unicode/utf8's first and acceptRanges hold what their initialisers lay. -/
structure Tabs (w : World) : Prop where
  first : ∀ c, c < 256 → w.cell? ⟨0, c, none⟩ = some (.int .u8 (Lib.firstT c))
  accept : ∀ i, i < 16 → w.cell? ⟨1, 2 * i, none⟩ = some (.int .u8 (Lib.accLo i)) ∧ w.cell? ⟨1, 2 * i + 1, none⟩ = some (.int .u8 (Lib.accHi i))

theorem Tabs.below {w w' : World} (h : Tabs w) (hb : Below w.heap.size w w') : Tabs w' := by
  refine ⟨fun c hc => ?_, fun i hi => ⟨?_, ?_⟩⟩
  · exact (hb.cell (World.block_lt_of_cell? w _ (h.1 c hc))).trans (h.1 c hc)
  · exact (hb.cell (World.block_lt_of_cell? w _ (h.2 i hi).1)).trans (h.2 i hi).1
  · exact (hb.cell (World.block_lt_of_cell? w _ (h.2 i hi).2)).trans (h.2 i hi).2

/-- What Go's decoder tells of bytes: the rune and its width. -/
def decL (l : List Int) : Nat × Nat :=
  if l.length = 0 then (65533, 0) else Lib.decodeN l.length (l.getD 0 0).toNat (l.getD 1 0).toNat (l.getD 2 0).toNat (l.getD 3 0).toNat

def byteB (x : Int) : Bool := decide (0 ≤ x) && decide (x < 256)
def utf8_decodeRuneSlow.f (l : List Int) : Option (Int × Int) := if (l.take 4).all byteB = true then some (((decL l).1 : Int), ((decL l).2 : Int)) else none

end Go.Proofs.YtloafpnniooliaaDoor.Pa
