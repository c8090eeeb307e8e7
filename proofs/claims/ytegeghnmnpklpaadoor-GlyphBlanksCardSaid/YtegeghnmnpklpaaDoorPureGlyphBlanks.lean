/- Proved: which bytes are blanks is what the document says, for any byte. -/
import Derived.Test.YtegeghnmnpklpaaDoorAdSigns01
import Derived.Test.YtegeghnmnpklpaaDoorGenCols
import Derived.Test.YtegeghnmnpklpaaDoorPax7
namespace Go.Proofs.YtegeghnmnpklpaaDoor.Pure
open Go Go.RowKit Go.Proofs.YtegeghnmnpklpaaDoor.Pa Go.Proofs.YtegeghnmnpklpaaDoorW.PrintWords Go.Proofs.YtegeghnmnpklpaaDoorW.PrintLast Go.Proofs.YtegeghnmnpklpaaDoorW.PrintMore Go.Proofs.YtegeghnmnpklpaaDoor.Gen Go.Proofs.YtegeghnmnpklpaaDoor.Ad
set_option linter.unusedVariables false
set_option linter.unusedSimpArgs false

theorem GlyphBlanks : platenlaw01_GlyphBlanks.Pure := by
  intro a ha
  refine ⟨30, ?_⟩
  unfold platenlaw01_GlyphBlanks.f
  rw [platenlaw01_signs_spec 30 (by omega), Option.bind_some, if_pos rfl]
  unfold glyph_Blank.f platenref01_Blank.f
  by_cases h : a = 32
  · subst h; rfl
  · simp [h]

end Go.Proofs.YtegeghnmnpklpaaDoor.Pure
