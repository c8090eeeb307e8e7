/- Proved: the start of the character that a place lies in is the document's, and is its own, for any bytes and any place. -/
import Derived.Test.YtegeghnmnpklpaaDoorAdGlyphfloor
import Derived.Test.YtegeghnmnpklpaaDoorAdRef01floor
import Derived.Test.YtegeghnmnpklpaaDoorAdSigns01
import Derived.Test.YtegeghnmnpklpaaDoorGenBase
import Derived.Test.YtegeghnmnpklpaaDoorGenCols
import Derived.Test.YtegeghnmnpklpaaDoorGenGlyph
import Derived.Test.YtegeghnmnpklpaaDoorPax5
namespace Go.Proofs.YtegeghnmnpklpaaDoor.Pure
open Go Go.RowKit Go.Proofs.YtegeghnmnpklpaaDoor.Pa Go.Proofs.YtegeghnmnpklpaaDoorW.PrintWords Go.Proofs.YtegeghnmnpklpaaDoorW.PrintLast Go.Proofs.YtegeghnmnpklpaaDoorW.PrintMore Go.Proofs.YtegeghnmnpklpaaDoor.Gen Go.Proofs.YtegeghnmnpklpaaDoor.Ad
set_option linter.unusedVariables false
set_option linter.unusedSimpArgs false

theorem flo_of (p : List Int) (a : Nat) (ha : a ≤ p.length) : Bd p (flo p a) := by
  rcases Nat.lt_or_ge a p.length with h | h
  · obtain ⟨b, h1, h2, h3, h4⟩ := (Bd.end_ p).cover a h
    rw [flo_bd h1 (by omega) a h2 h3]; exact h1
  · have : a = p.length := by omega
    subst this
    rw [flo_self (Bd.end_ p)]; exact Bd.end_ p
theorem GlyphFloors : platenlaw01_GlyphFloors.Pure := by
  intro p a _ _ hp ha
  have bp := bytes_of hp
  refine ⟨501, ?_⟩
  unfold platenlaw01_GlyphFloors.f
  rw [platenlaw01_signs_spec 501 (by omega), Option.bind_some, if_pos rfl]
  by_cases h : (p.length : Int) > 300
  · rw [decide_eq_true h, platenlaw01_GlyphFloors.j0, if_pos rfl, platenlaw01_signs_spec 500 (by omega), Option.bind_some]
  · rw [decide_eq_false h, platenlaw01_GlyphFloors.j0, if_neg (by simp)]
    rw [glyph_Floor_spec p bp (by omega) a 500 (by omega), Option.bind_some, platenref01_Floor_spec p (by omega) a 500 (by omega), Option.bind_some, if_pos rfl, glyph_Floor_spec p bp (by omega) _ 500 (by omega), Option.bind_some]
    have hb := flo_of p (clip p a) (by unfold clip; omega)
    have hc : clip p (flo p (clip p a) : Int) = flo p (clip p a) := by have := hb.le; unfold clip at *; omega
    rw [hc, flo_self hb]
    simp

end Go.Proofs.YtegeghnmnpklpaaDoor.Pure
