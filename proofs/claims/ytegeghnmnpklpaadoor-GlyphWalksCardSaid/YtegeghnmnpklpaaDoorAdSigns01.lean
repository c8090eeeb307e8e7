/- The few signs on which layer 1's laws hang. -/
import Derived.Test.YtegeghnmnpklpaaDoorAdGlyphcount
import Derived.Test.YtegeghnmnpklpaaDoorAdGlyphfloor
import Derived.Test.YtegeghnmnpklpaaDoorAdGlyphprev
import Derived.Test.YtegeghnmnpklpaaDoorAdGlyphwide
import Derived.Test.YtegeghnmnpklpaaDoorAdUtf8
import Derived.Test.YtegeghnmnpklpaaDoorGenBase
import Derived.Test.YtegeghnmnpklpaaDoorGenCols
import Derived.Test.YtegeghnmnpklpaaDoorGenGlyph
import Derived.Test.YtegeghnmnpklpaaDoorPax1
import Derived.Test.YtegeghnmnpklpaaDoorPax2
namespace Go.Proofs.YtegeghnmnpklpaaDoor.Ad
open Go Go.RowKit Go.Proofs.YtegeghnmnpklpaaDoor.Pa Go.Proofs.YtegeghnmnpklpaaDoorW.PrintWords Go.Proofs.YtegeghnmnpklpaaDoorW.PrintLast Go.Proofs.YtegeghnmnpklpaaDoorW.PrintMore Go.Proofs.YtegeghnmnpklpaaDoor.Gen
set_option linter.unusedVariables false
set_option linter.unusedSimpArgs false

theorem platenlaw01_signs_spec (k : Nat) (hk : 20 < k) : platenlaw01_signs.f k = some true := by
  have b1 : Bytes [97, 9, 98, 195, 169] := by intro x hx; simp at hx; omega
  have b2 : Bytes [97, 9, 98] := by intro x hx; simp at hx; omega
  have n1 := glyph_Next_spec [97, 9, 98, 195, 169] b1 3 (by decide) k (by omega)
  have p1 := glyph_Prev_spec [97, 9, 98, 195, 169] b1 (by decide) 5 (by decide) k (by omega)
  have f1 := glyph_Floor_spec [97, 9, 98, 195, 169] b1 (by decide) 4 k (by omega)
  have c1 := glyph_Count_spec [97, 9, 98, 195, 169] b1 (by decide) k (by simp only [List.length_cons, List.length_nil]; omega)
  have w1 := glyph_Wide_spec [97, 9, 98] b2 0 8 (by omega) (by omega) (by decide) (by omega) k (by simp only [List.length_cons, List.length_nil]; omega)
  have v1 : gsz (([97, 9, 98, 195, 169] : List Int).drop 3) = 2 := by decide
  have v2 : lsz (([97, 9, 98, 195, 169] : List Int).take 5) = 2 := by decide
  have v3 : flo [97, 9, 98, 195, 169] (clip [97, 9, 98, 195, 169] 4) = 3 := by decide
  have v4 : cnt [97, 9, 98, 195, 169] = 4 := by decide
  have v5 : wid_ [97, 9, 98] 0 8 = 9 := by decide
  rw [v1] at n1; rw [v2] at p1; rw [v3] at f1; rw [v4] at c1; rw [v5] at w1
  unfold platenlaw01_signs.f
  rw [Option.bind_some, if_pos (by decide)]
  rw [show (([97, 9, 98, 195, 169] : List Int).take 3) = [97, 9, 98] from rfl]
  rw [show glyph_Wide.f k [97, 9, 98] 0 8 = some 9 from w1, Option.bind_some, if_pos rfl, show glyph_Next.f k [97, 9, 98, 195, 169] 3 = some 2 from n1, Option.bind_some, if_pos rfl,
    show glyph_Prev.f k [97, 9, 98, 195, 169] 5 = some 2 from p1, Option.bind_some, if_pos rfl, show glyph_Floor.f k [97, 9, 98, 195, 169] 4 = some 3 from f1, Option.bind_some, if_pos rfl, c1, Option.bind_some]
  rfl

end Go.Proofs.YtegeghnmnpklpaaDoor.Ad
