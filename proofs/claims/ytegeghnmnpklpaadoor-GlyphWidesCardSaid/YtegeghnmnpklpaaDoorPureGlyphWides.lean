/- Proved: the column behind a text is the document's, and the sum of what is behind and what is ahead of a character, for any bytes, place, column and tab width. -/
import Derived.Test.YtegeghnmnpklpaaDoorAdGlyphfloor
import Derived.Test.YtegeghnmnpklpaaDoorAdGlyphwide
import Derived.Test.YtegeghnmnpklpaaDoorAdRef01floor
import Derived.Test.YtegeghnmnpklpaaDoorAdRef01wide
import Derived.Test.YtegeghnmnpklpaaDoorAdSigns01
import Derived.Test.YtegeghnmnpklpaaDoorAdUtf8
import Derived.Test.YtegeghnmnpklpaaDoorGenBase
import Derived.Test.YtegeghnmnpklpaaDoorGenCols
import Derived.Test.YtegeghnmnpklpaaDoorGenGlyph
import Derived.Test.YtegeghnmnpklpaaDoorPax7
namespace Go.Proofs.YtegeghnmnpklpaaDoor.Pure
open Go Go.RowKit Go.Proofs.YtegeghnmnpklpaaDoor.Pa Go.Proofs.YtegeghnmnpklpaaDoorW.PrintWords Go.Proofs.YtegeghnmnpklpaaDoorW.PrintLast Go.Proofs.YtegeghnmnpklpaaDoorW.PrintMore Go.Proofs.YtegeghnmnpklpaaDoor.Gen Go.Proofs.YtegeghnmnpklpaaDoor.Ad
set_option linter.unusedVariables false
set_option linter.unusedSimpArgs false

theorem flo_of2 (p : List Int) (a : Nat) (ha : a ≤ p.length) : Bd p (flo p a) := by
  rcases Nat.lt_or_ge a p.length with h | h
  · obtain ⟨b, h1, h2, h3, h4⟩ := (Bd.end_ p).cover a h
    rw [flo_bd h1 (by omega) a h2 h3]; exact h1
  · have : a = p.length := by omega
    subst this
    rw [flo_self (Bd.end_ p)]; exact Bd.end_ p
theorem GlyphWides : platenlaw01_GlyphWides.Pure := by
  intro p at_ a c _ _ hp hat ha hc
  have bp := bytes_of hp
  have bc := u8_of hc
  have ba : 0 ≤ a ∧ a ≤ 65535 := by
    simp [Lit.wf, IntKind.min, IntKind.max, IntKind.bits, IntKind.signed] at ha
    omega
  refine ⟨501, ?_⟩
  unfold platenlaw01_GlyphWides.f
  rw [platenlaw01_signs_spec 501 (by omega), Option.bind_some, if_pos rfl]
  have hguard : platenlaw01_GlyphWides.j0 501 p at_ a c true = some true := by
    rw [platenlaw01_GlyphWides.j0, if_pos rfl, platenlaw01_signs_spec 500 (by omega), Option.bind_some]
  obtain ⟨a, rfl⟩ : ∃ n : Nat, a = (n : Int) := ⟨a.toNat, by omega⟩
  obtain ⟨c, rfl⟩ : ∃ n : Nat, c = (n : Int) := ⟨c.toNat, by omega⟩
  clear ha hc hat
  by_cases h1 : (p.length : Int) > 200
  · rw [if_pos h1, hguard]
  · rw [if_neg h1]
    by_cases h2 : c = 0
    · subst h2
      rw [show (((0 : Nat) : Int) == 0) = true from rfl, hguard]
    · rw [show ((c : Int) == 0) = false by simpa using h2, platenlaw01_GlyphWides.j0, if_neg (by simp)]
      have hb := flo_of2 p (clip p at_) (by unfold clip; omega)
      have hle := hb.le
      have hw := wid_le p.length p a c (Nat.le_refl _) (by omega)
      have hlt : (p.take (flo p (clip p at_))).length ≤ p.length := by simp only [List.length_take]; omega
      have hwt := wid_le _ (p.take (flo p (clip p at_))) a c (Nat.le_refl _) (by omega)
      have hm1 : (p.take (flo p (clip p at_))).length * c ≤ 200 * 255 := Nat.mul_le_mul (by omega) (by omega)
      have hsp := wid_split hb c 0 a .zero (by omega)
      simp only [List.drop_zero] at hsp
      have hdl : (p.drop (flo p (clip p at_))).length ≤ p.length := by simp only [List.length_drop]; omega
      have w1 : wrap64 (a : Int) = (a : Int) := wid (by omega) (by omega)
      have w2 : wrap64 (c : Int) = (c : Int) := by clear w1; exact wid (by omega) (by omega)
      rw [w1, w2]
      clear w1 w2
      rw [platenref01_Floor_spec p (by omega) at_ 500 (by omega), Option.bind_some, glyph_Wide_spec p bp a c (by omega) (by omega) (by omega) (by omega) 500 (by omega), Option.bind_some,
        platenref01_Wide_spec p bp a c (by omega) (by omega) (by omega) (by omega) 500 (by omega), Option.bind_some, if_pos rfl, if_pos (by omega), if_pos (by omega), Int.toNat_natCast,
        glyph_Wide_spec _ (bytes_take bp _) a c (by omega) (by omega) (by omega) (by omega) 500 (by omega), Option.bind_some,
        glyph_Wide_spec _ (bytes_drop bp _) _ c (by omega) (by omega) (by omega) (by omega) 500 (by omega), Option.bind_some, hsp]
      simp

end Go.Proofs.YtegeghnmnpklpaaDoor.Pure
