/- Proved: the size of the character ahead of a place is the document's, for any bytes and any place. -/
import Derived.Test.YtegeghnmnpklpaaDoorAdGlyphprev
import Derived.Test.YtegeghnmnpklpaaDoorAdRef01last
import Derived.Test.YtegeghnmnpklpaaDoorAdSigns01
import Derived.Test.YtegeghnmnpklpaaDoorGenBase
import Derived.Test.YtegeghnmnpklpaaDoorGenCols
import Derived.Test.YtegeghnmnpklpaaDoorPax4
namespace Go.Proofs.YtegeghnmnpklpaaDoor.Pure
open Go Go.RowKit Go.Proofs.YtegeghnmnpklpaaDoor.Pa Go.Proofs.YtegeghnmnpklpaaDoorW.PrintWords Go.Proofs.YtegeghnmnpklpaaDoorW.PrintLast Go.Proofs.YtegeghnmnpklpaaDoorW.PrintMore Go.Proofs.YtegeghnmnpklpaaDoor.Gen Go.Proofs.YtegeghnmnpklpaaDoor.Ad
set_option linter.unusedVariables false
set_option linter.unusedSimpArgs false

theorem GlyphPrevs : platenlaw01_GlyphPrevs.Pure := by
  intro p a _ _ hp ha
  have bp := bytes_of hp
  refine ⟨101, ?_⟩
  unfold platenlaw01_GlyphPrevs.f
  rw [platenlaw01_signs_spec 101 (by omega), Option.bind_some, if_pos rfl]
  by_cases h : (p.length : Int) > 300
  · rw [decide_eq_true h, platenlaw01_GlyphPrevs.j0, if_pos rfl, platenlaw01_signs_spec 100 (by omega), Option.bind_some]
  · rw [decide_eq_false h, platenlaw01_GlyphPrevs.j0, if_neg (by simp)]
    by_cases ho : a ≤ 0 ∨ a > (p.length : Int)
    · rw [glyph_Prev_out p a ho, Option.bind_some, platenref01_Last_out p a ho 100 (by omega), Option.bind_some]; rfl
    · obtain ⟨i, rfl⟩ : ∃ i : Nat, a = (i : Int) := ⟨a.toNat, by omega⟩
      rw [glyph_Prev_spec p bp (by omega) i (by omega) 100 (by omega), Option.bind_some, platenref01_Last_spec p (by omega) i (by omega) (by omega) 100 (by omega), Option.bind_some]
      simp

end Go.Proofs.YtegeghnmnpklpaaDoor.Pure
