/- Proved: two texts joined have as many characters as both, or up to three fewer, and as many as the document's starts, for any bytes. -/
import Derived.Test.YtegeghnmnpklpaaDoorAdGlyphcount
import Derived.Test.YtegeghnmnpklpaaDoorAdRef01starts
import Derived.Test.YtegeghnmnpklpaaDoorAdSigns01
import Derived.Test.YtegeghnmnpklpaaDoorAdUtf8
import Derived.Test.YtegeghnmnpklpaaDoorGenBase
import Derived.Test.YtegeghnmnpklpaaDoorGenCols
import Derived.Test.YtegeghnmnpklpaaDoorGenGlyph
import Derived.Test.YtegeghnmnpklpaaDoorPax6
namespace Go.Proofs.YtegeghnmnpklpaaDoor.Pure
open Go Go.RowKit Go.Proofs.YtegeghnmnpklpaaDoor.Pa Go.Proofs.YtegeghnmnpklpaaDoorW.PrintWords Go.Proofs.YtegeghnmnpklpaaDoorW.PrintLast Go.Proofs.YtegeghnmnpklpaaDoorW.PrintMore Go.Proofs.YtegeghnmnpklpaaDoor.Gen Go.Proofs.YtegeghnmnpklpaaDoor.Ad
set_option linter.unusedVariables false
set_option linter.unusedSimpArgs false

theorem GlyphJoins : platenlaw01_GlyphJoins.Pure := by
  intro a b _ _ ha _ _ hb
  have ba := bytes_of ha
  have bb := bytes_of hb
  refine ⟨601, ?_⟩
  unfold platenlaw01_GlyphJoins.f
  rw [platenlaw01_signs_spec 601 (by omega), Option.bind_some, if_pos rfl]
  have hguard : platenlaw01_GlyphJoins.j0 601 a b true = some true := by
    rw [platenlaw01_GlyphJoins.j0, if_pos rfl, platenlaw01_signs_spec 600 (by omega), Option.bind_some]
  by_cases h1 : (a.length : Int) > 200
  · rw [if_pos h1, hguard]
  · rw [if_neg h1]
    by_cases h2 : (b.length : Int) > 200
    · rw [decide_eq_true h2, hguard]
    · rw [decide_eq_false h2, platenlaw01_GlyphJoins.j0, if_neg (by simp)]
      have hj : platenref01_Join.f a b = some (a ++ b) := by
        unfold platenref01_Join.f
        rw [if_pos (by simp only [List.length_nil]; omega), Option.bind_some, if_pos (by simp only [List.nil_append]; omega)]
        rfl
      have hlen : (a ++ b).length = a.length + b.length := List.length_append
      have hcj := cnt_join a.length a b (Nat.le_refl _)
      have hs : ∀ q : List Int, (starts q).length = cnt q := fun q => by
        have := starts_cnt q q.length 0 (by omega) (by omega)
        simpa [starts] using this
      have hca : cnt a ≤ a.length := by rw [← hs a]; exact startsF_len a a.length 0
      have hcb : cnt b ≤ b.length := by rw [← hs b]; exact startsF_len b b.length 0
      have w1 : wrap64 ((cnt a : Int) + (cnt b : Int)) = (cnt a : Int) + (cnt b : Int) := wid (by omega) (by omega)
      have w2 : wrap64 ((cnt a : Int) + (cnt b : Int) - 3) = (cnt a : Int) + (cnt b : Int) - 3 := by clear w1; exact wid (by omega) (by omega)
      rw [glyph_Count_spec a ba (by clear w1 w2; omega) 600 (by clear w1 w2; omega), Option.bind_some, glyph_Count_spec b bb (by clear w1 w2; omega) 600 (by clear w1 w2; omega), Option.bind_some, hj, Option.bind_some,
        glyph_Count_spec _ (bytes_append ba bb) (by clear w1 w2; omega) 600 (by clear w1 w2; omega), Option.bind_some, w1, w2]
      clear w1 w2
      rw [if_pos (by omega), if_pos (by omega), Option.bind_some, platenref01_Starts_spec _ (by omega) 600 (by omega), Option.bind_some, zs_len, hs]
      simp

end Go.Proofs.YtegeghnmnpklpaaDoor.Pure
