/-
  DERIVED. GIVEN WITH THE SEED: THE CARDS: each row of YtlpcibpeakmmaaaDoorRows.lean that lists a variable, with what it lists TIED to the program's text (the seventh form; the later family's looks); each row that meets fmt, with fmt's text TOLD by the authors' own Lean function (tested against real Go, not proved from fmt's source: count such statements apart). THE CARD IS WHAT COUNTS. Prove the row's statement (the work); the ties are given (YtlpcibpeakmmaaaDoorTie.lean); close each card by the builder's one call (the guide's Derived/Test/ToyasCard.lean, 'card_holds'). Laid BY PROGRAM, IN A SANDBOX (cutbox-door.mjs). By AI agents, Wed Nov 11 2026. No macro, syntax, notation, axiom, sorry.
-/
import Derived.Test.YtlpcibpeakmmaaaDoorRows
import GoSem.ClaimSeven
namespace Go.Proofs.YtlpcibpeakmmaaaDoor
namespace Rows

/-- THE TIED CARD OF 'platenlaw03.LinesCounts'. -/
def linesCountsCard : Claim7 := { stood := { row := linesCountsRow, standIns := [], harness := (true, "858abda498f2a0a6046ee6c6e4ef7e64f42fb3c91a16c65dc44a2c5f21cc82b3"), looks := false }, kinds := [], alts := [], laidByText := true, laidKinds := [.data, .pinned], laidTests := true, laidLooks := .later }
def LinesCountsCardSaid : Prop := Claim7.holds Tryd.pinned (.plain (OpenSpec.ofChange linesCountsSpec)) linesCountsCard

/-- THE TIED CARD OF 'platenlaw03.LinesSpans'. -/
def linesSpansCard : Claim7 := { stood := { row := linesSpansRow, standIns := [], harness := (true, "858abda498f2a0a6046ee6c6e4ef7e64f42fb3c91a16c65dc44a2c5f21cc82b3"), looks := false }, kinds := [], alts := [], laidByText := true, laidKinds := [.data, .pinned], laidTests := true, laidLooks := .later }
def LinesSpansCardSaid : Prop := Claim7.holds Tryd.pinned (.plain (OpenSpec.ofChange linesSpansSpec)) linesSpansCard

/-- THE TIED CARD OF 'platenlaw03.LinesColumns'. -/
def linesColumnsCard : Claim7 := { stood := { row := linesColumnsRow, standIns := [], harness := (true, "858abda498f2a0a6046ee6c6e4ef7e64f42fb3c91a16c65dc44a2c5f21cc82b3"), looks := false }, kinds := [], alts := [], laidByText := true, laidKinds := [.data, .pinned], laidTests := true, laidLooks := .later }
def LinesColumnsCardSaid : Prop := Claim7.holds Tryd.pinned (.plain (OpenSpec.ofChange linesColumnsSpec)) linesColumnsCard

/-- THE TIED CARD OF 'platenlaw03.LinesGoOn'. -/
def linesGoOnCard : Claim7 := { stood := { row := linesGoOnRow, standIns := [], harness := (true, "858abda498f2a0a6046ee6c6e4ef7e64f42fb3c91a16c65dc44a2c5f21cc82b3"), looks := false }, kinds := [], alts := [], laidByText := true, laidKinds := [.data, .pinned], laidTests := true, laidLooks := .later }
def LinesGoOnCardSaid : Prop := Claim7.holds Tryd.pinned (.plain (OpenSpec.ofChange linesGoOnSpec)) linesGoOnCard

/-- THE TIED CARD OF 'platenlaw03.LinesIndents'. -/
def linesIndentsCard : Claim7 := { stood := { row := linesIndentsRow, standIns := [], harness := (true, "858abda498f2a0a6046ee6c6e4ef7e64f42fb3c91a16c65dc44a2c5f21cc82b3"), looks := false }, kinds := [], alts := [], laidByText := true, laidKinds := [.data, .pinned], laidTests := true, laidLooks := .later }
def LinesIndentsCardSaid : Prop := Claim7.holds Tryd.pinned (.plain (OpenSpec.ofChange linesIndentsSpec)) linesIndentsCard

/-- THE TIED CARD OF 'platenlaw03.LinesWholes'. -/
def linesWholesCard : Claim7 := { stood := { row := linesWholesRow, standIns := [], harness := (true, "858abda498f2a0a6046ee6c6e4ef7e64f42fb3c91a16c65dc44a2c5f21cc82b3"), looks := false }, kinds := [], alts := [], laidByText := true, laidKinds := [.data, .pinned], laidTests := true, laidLooks := .later }
def LinesWholesCardSaid : Prop := Claim7.holds Tryd.pinned (.plain (OpenSpec.ofChange linesWholesSpec)) linesWholesCard

/-- THE TIED CARD OF 'platenlaw03.LinesWithin'. -/
def linesWithinCard : Claim7 := { stood := { row := linesWithinRow, standIns := [], harness := (true, "858abda498f2a0a6046ee6c6e4ef7e64f42fb3c91a16c65dc44a2c5f21cc82b3"), looks := false }, kinds := [], alts := [], laidByText := true, laidKinds := [.data, .pinned], laidTests := true, laidLooks := .later }
def LinesWithinCardSaid : Prop := Claim7.holds Tryd.pinned (.plain (OpenSpec.ofChange linesWithinSpec)) linesWithinCard

/-- THE TIED CARD OF 'platenlaw03.LinesSplits'. -/
def linesSplitsCard : Claim7 := { stood := { row := linesSplitsRow, standIns := [], harness := (true, "858abda498f2a0a6046ee6c6e4ef7e64f42fb3c91a16c65dc44a2c5f21cc82b3"), looks := false }, kinds := [], alts := [], laidByText := true, laidKinds := [.data, .pinned], laidTests := true, laidLooks := .later }
def LinesSplitsCardSaid : Prop := Claim7.holds Tryd.pinned (.plain (OpenSpec.ofChange linesSplitsSpec)) linesSplitsCard

/-- THE SECOND FORM's CARD OF 'platenlaw03.LinesCounts'. -/
def linesCountsUptoCard : Claim7 := { stood := { row := linesCountsUptoRow, standIns := [], harness := (true, "858abda498f2a0a6046ee6c6e4ef7e64f42fb3c91a16c65dc44a2c5f21cc82b3"), looks := false }, kinds := [], alts := [], laidByText := true, laidKinds := [.data, .pinned], laidTests := true, laidLooks := .later }
def LinesCountsUptoCardSaid : Prop := Claim7.holds Tryd.pinned (.plain (OpenSpec.upto linesCountsSpec)) linesCountsUptoCard

/-- THE SECOND FORM's CARD OF 'platenlaw03.LinesSpans'. -/
def linesSpansUptoCard : Claim7 := { stood := { row := linesSpansUptoRow, standIns := [], harness := (true, "858abda498f2a0a6046ee6c6e4ef7e64f42fb3c91a16c65dc44a2c5f21cc82b3"), looks := false }, kinds := [], alts := [], laidByText := true, laidKinds := [.data, .pinned], laidTests := true, laidLooks := .later }
def LinesSpansUptoCardSaid : Prop := Claim7.holds Tryd.pinned (.plain (OpenSpec.upto linesSpansSpec)) linesSpansUptoCard

/-- THE SECOND FORM's CARD OF 'platenlaw03.LinesColumns'. -/
def linesColumnsUptoCard : Claim7 := { stood := { row := linesColumnsUptoRow, standIns := [], harness := (true, "858abda498f2a0a6046ee6c6e4ef7e64f42fb3c91a16c65dc44a2c5f21cc82b3"), looks := false }, kinds := [], alts := [], laidByText := true, laidKinds := [.data, .pinned], laidTests := true, laidLooks := .later }
def LinesColumnsUptoCardSaid : Prop := Claim7.holds Tryd.pinned (.plain (OpenSpec.upto linesColumnsSpec)) linesColumnsUptoCard

/-- THE SECOND FORM's CARD OF 'platenlaw03.LinesGoOn'. -/
def linesGoOnUptoCard : Claim7 := { stood := { row := linesGoOnUptoRow, standIns := [], harness := (true, "858abda498f2a0a6046ee6c6e4ef7e64f42fb3c91a16c65dc44a2c5f21cc82b3"), looks := false }, kinds := [], alts := [], laidByText := true, laidKinds := [.data, .pinned], laidTests := true, laidLooks := .later }
def LinesGoOnUptoCardSaid : Prop := Claim7.holds Tryd.pinned (.plain (OpenSpec.upto linesGoOnSpec)) linesGoOnUptoCard

/-- THE SECOND FORM's CARD OF 'platenlaw03.LinesIndents'. -/
def linesIndentsUptoCard : Claim7 := { stood := { row := linesIndentsUptoRow, standIns := [], harness := (true, "858abda498f2a0a6046ee6c6e4ef7e64f42fb3c91a16c65dc44a2c5f21cc82b3"), looks := false }, kinds := [], alts := [], laidByText := true, laidKinds := [.data, .pinned], laidTests := true, laidLooks := .later }
def LinesIndentsUptoCardSaid : Prop := Claim7.holds Tryd.pinned (.plain (OpenSpec.upto linesIndentsSpec)) linesIndentsUptoCard

/-- THE SECOND FORM's CARD OF 'platenlaw03.LinesWholes'. -/
def linesWholesUptoCard : Claim7 := { stood := { row := linesWholesUptoRow, standIns := [], harness := (true, "858abda498f2a0a6046ee6c6e4ef7e64f42fb3c91a16c65dc44a2c5f21cc82b3"), looks := false }, kinds := [], alts := [], laidByText := true, laidKinds := [.data, .pinned], laidTests := true, laidLooks := .later }
def LinesWholesUptoCardSaid : Prop := Claim7.holds Tryd.pinned (.plain (OpenSpec.upto linesWholesSpec)) linesWholesUptoCard

/-- THE SECOND FORM's CARD OF 'platenlaw03.LinesWithin'. -/
def linesWithinUptoCard : Claim7 := { stood := { row := linesWithinUptoRow, standIns := [], harness := (true, "858abda498f2a0a6046ee6c6e4ef7e64f42fb3c91a16c65dc44a2c5f21cc82b3"), looks := false }, kinds := [], alts := [], laidByText := true, laidKinds := [.data, .pinned], laidTests := true, laidLooks := .later }
def LinesWithinUptoCardSaid : Prop := Claim7.holds Tryd.pinned (.plain (OpenSpec.upto linesWithinSpec)) linesWithinUptoCard

/-- THE SECOND FORM's CARD OF 'platenlaw03.LinesSplits'. -/
def linesSplitsUptoCard : Claim7 := { stood := { row := linesSplitsUptoRow, standIns := [], harness := (true, "858abda498f2a0a6046ee6c6e4ef7e64f42fb3c91a16c65dc44a2c5f21cc82b3"), looks := false }, kinds := [], alts := [], laidByText := true, laidKinds := [.data, .pinned], laidTests := true, laidLooks := .later }
def LinesSplitsUptoCardSaid : Prop := Claim7.holds Tryd.pinned (.plain (OpenSpec.upto linesSplitsSpec)) linesSplitsUptoCard
end Rows
end Go.Proofs.YtlpcibpeakmmaaaDoor
