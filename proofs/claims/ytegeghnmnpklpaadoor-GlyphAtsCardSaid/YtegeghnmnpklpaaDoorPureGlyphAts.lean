/- Proved: the place of a column is the document's: what is ahead of it is no wider, and with the character there it is, for any bytes, column and tab width. -/
import Derived.Test.YtegeghnmnpklpaaDoorAdGlyphat
import Derived.Test.YtegeghnmnpklpaaDoorAdGlyphwide
import Derived.Test.YtegeghnmnpklpaaDoorAdRef01at
import Derived.Test.YtegeghnmnpklpaaDoorAdSigns01
import Derived.Test.YtegeghnmnpklpaaDoorAdUtf8
import Derived.Test.YtegeghnmnpklpaaDoorGenBase
import Derived.Test.YtegeghnmnpklpaaDoorGenCols
import Derived.Test.YtegeghnmnpklpaaDoorGenGlyph
import Derived.Test.YtegeghnmnpklpaaDoorPax2
import Derived.Test.YtegeghnmnpklpaaDoorPax8
namespace Go.Proofs.YtegeghnmnpklpaaDoor.Pure
open Go Go.RowKit Go.Proofs.YtegeghnmnpklpaaDoor.Pa Go.Proofs.YtegeghnmnpklpaaDoorW.PrintWords Go.Proofs.YtegeghnmnpklpaaDoorW.PrintLast Go.Proofs.YtegeghnmnpklpaaDoorW.PrintMore Go.Proofs.YtegeghnmnpklpaaDoor.Gen Go.Proofs.YtegeghnmnpklpaaDoor.Ad
set_option linter.unusedVariables false
set_option linter.unusedSimpArgs false

theorem GlyphAts : platenlaw01_GlyphAts.Pure := by
  intro p a c _ _ hp ha hc
  have bp := bytes_of hp
  have bc := u8_of hc
  have ba : 0 ≤ a ∧ a ≤ 65535 := by
    simp [Lit.wf, IntKind.min, IntKind.max, IntKind.bits, IntKind.signed] at ha
    omega
  refine ⟨502, ?_⟩
  unfold platenlaw01_GlyphAts.f
  rw [platenlaw01_signs_spec 502 (by omega), Option.bind_some, if_pos rfl]
  have hguard : platenlaw01_GlyphAts.j0 502 p a c true = some true := by
    rw [platenlaw01_GlyphAts.j0, if_pos rfl, platenlaw01_signs_spec 501 (by omega), Option.bind_some]
  obtain ⟨a, rfl⟩ : ∃ n : Nat, a = (n : Int) := ⟨a.toNat, by omega⟩
  obtain ⟨c, rfl⟩ : ∃ n : Nat, c = (n : Int) := ⟨c.toNat, by omega⟩
  clear ha hc
  by_cases h1 : (p.length : Int) > 200
  · rw [if_pos h1, hguard]
  · rw [if_neg h1]
    by_cases h2 : c = 0
    · subst h2
      rw [show (((0 : Nat) : Int) == 0) = true from rfl, hguard]
    · rw [show ((c : Int) == 0) = false by simpa using h2, platenlaw01_GlyphAts.j0, if_neg (by simp)]
      have w1 : wrap64 (a : Int) = (a : Int) := wid (by omega) (by omega)
      have w2 : wrap64 (c : Int) = (c : Int) := by clear w1; exact wid (by omega) (by omega)
      rw [w1, w2]
      obtain ⟨hb, hle, hgt⟩ := atF_spec p a c p.length 0 .zero (by clear w1 w2; omega) (by simp [wid_nil])
      have e0 : wid_ (p.take 0) 0 c = 0 := rfl
      rw [e0] at hb hle hgt
      rw [show atF p.length p 0 0 a c = at_ p a c from rfl] at hb hle hgt
      clear w2
      have hbl := hb.le
      have hlt : (p.take (at_ p a c)).length ≤ p.length := by simp only [List.length_take]; clear w1; omega
      rw [glyph_At_spec p bp a c (by clear w1; omega) (by clear w1; omega) (by clear w1; omega) 501 (by clear w1; omega), Option.bind_some, platenref01_At_spec p bp a c (by clear w1; omega) (by clear w1; omega) (by clear w1; omega) 501 (by clear w1; omega), Option.bind_some, if_pos rfl,
        if_neg (by clear w1; omega), if_neg (by clear w1; omega), if_pos (by clear w1; omega), if_pos (by clear w1; omega), Int.toNat_natCast,
        show glyph_Wide.f 501 (p.take (at_ p a c)) 0 (c : Int) = some (wid_ (p.take (at_ p a c)) 0 c : Int) from glyph_Wide_spec _ (bytes_take bp _) 0 c (by clear w1; omega) (by clear w1; omega) (by clear w1; omega) (by clear w1; omega) 501 (by clear w1; omega), Option.bind_some,
        decide_eq_false (by clear w1; omega), platenlaw01_GlyphAts.j1, if_neg (by simp)]
      by_cases he : at_ p a c = p.length
      · rw [if_pos (by clear w1; omega)]
      · have hx : at_ p a c < p.length := by clear w1; omega
        have hgl := gd_le p _ hbl
        have h4 := gd_four p (at_ p a c)
        have hgt := hgt hx
        rw [if_neg (by clear w1; omega), glyph_Next_spec p bp _ hx 500 (by clear w1; omega), Option.bind_some]
        have w2 : wrap64 ((at_ p a c : Int) + (gsz (p.drop (at_ p a c)) : Int)) = ((at_ p a c + gsz (p.drop (at_ p a c)) : Nat) : Int) := by
          clear w1
          rw [← Int.natCast_add]; exact wid (by omega) (by omega)
        rw [w1, w2]
        clear w1 w2
        have hlt2 : (p.take (at_ p a c + gsz (p.drop (at_ p a c)))).length ≤ p.length := by simp only [List.length_take]; omega
        rw [if_pos (by omega), if_pos (by omega), Int.toNat_natCast,
          show glyph_Wide.f 500 (p.take (at_ p a c + gsz (p.drop (at_ p a c)))) 0 (c : Int) = some (wid_ (p.take (at_ p a c + gsz (p.drop (at_ p a c)))) 0 c : Int) from glyph_Wide_spec _ (bytes_take bp _) 0 c (by omega) (by omega) (by omega) (by omega) 500 (by omega), Option.bind_some,
          decide_eq_true (by omega)]

end Go.Proofs.YtegeghnmnpklpaaDoor.Pure
