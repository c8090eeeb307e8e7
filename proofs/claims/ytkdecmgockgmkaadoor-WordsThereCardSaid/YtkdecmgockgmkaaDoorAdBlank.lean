/- Blanks. -/
import Derived.Test.YtkdecmgockgmkaaDoorGenBase
import Derived.Test.YtkdecmgockgmkaaDoorPax1
namespace Go.Proofs.YtkdecmgockgmkaaDoor.Ad
open Go Go.RowKit Go.Proofs.YtkdecmgockgmkaaDoor.Pa Go.Proofs.YtkdecmgockgmkaaDoorW.PrintWords Go.Proofs.YtkdecmgockgmkaaDoorW.PrintLast Go.Proofs.YtkdecmgockgmkaaDoorW.PrintMore Go.Proofs.YtkdecmgockgmkaaDoor.Gen
set_option linter.unusedVariables false
set_option linter.unusedSimpArgs false

theorem glyph_Blank_spec (c : Int) : glyph_Blank.f c = some (decide (c = 32 ∨ c = 9)) := by
  unfold glyph_Blank.f
  split
  · simp [*]
  · rw [Option.some_inj, Bool.eq_iff_iff]; simp; omega

end Go.Proofs.YtkdecmgockgmkaaDoor.Ad
