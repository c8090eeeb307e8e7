/- Proved: the column behind a byte is the document's, and behind a tab the next stop, for any column, byte and tab width. -/
import Derived.Test.YtegeghnmnpklpaaDoorAdGlyph
import Derived.Test.YtegeghnmnpklpaaDoorAdRef01cols
import Derived.Test.YtegeghnmnpklpaaDoorAdSigns01
import Derived.Test.YtegeghnmnpklpaaDoorGenBase
import Derived.Test.YtegeghnmnpklpaaDoorGenCols
import Derived.Test.YtegeghnmnpklpaaDoorPax6
namespace Go.Proofs.YtegeghnmnpklpaaDoor.Pure
open Go Go.RowKit Go.Proofs.YtegeghnmnpklpaaDoor.Pa Go.Proofs.YtegeghnmnpklpaaDoorW.PrintWords Go.Proofs.YtegeghnmnpklpaaDoorW.PrintLast Go.Proofs.YtegeghnmnpklpaaDoorW.PrintMore Go.Proofs.YtegeghnmnpklpaaDoor.Gen Go.Proofs.YtegeghnmnpklpaaDoor.Ad
set_option linter.unusedVariables false
set_option linter.unusedSimpArgs false

theorem GlyphSteps : platenlaw01_GlyphSteps.Pure := by
  intro a b c ha hb hc
  have bb := u8_of hb
  have bc := u8_of hc
  have ba : 0 ≤ a ∧ a ≤ 65535 := by
    simp [Lit.wf, IntKind.min, IntKind.max, IntKind.bits, IntKind.signed] at ha
    omega
  refine ⟨101, ?_⟩
  unfold platenlaw01_GlyphSteps.f
  rw [platenlaw01_signs_spec 101 (by omega), Option.bind_some, if_pos rfl]
  obtain ⟨a, rfl⟩ : ∃ n : Nat, a = (n : Int) := ⟨a.toNat, by omega⟩
  obtain ⟨b, rfl⟩ : ∃ n : Nat, b = (n : Int) := ⟨b.toNat, by omega⟩
  obtain ⟨c, rfl⟩ : ∃ n : Nat, c = (n : Int) := ⟨c.toNat, by omega⟩
  clear ha hb hc
  by_cases h : c = 0
  · subst h
    rw [show (((0 : Nat) : Int) == 0) = true from rfl, platenlaw01_GlyphSteps.j0, if_pos rfl, platenlaw01_signs_spec 100 (by omega), Option.bind_some]
  · rw [show ((c : Int) == 0) = false by simpa using h, platenlaw01_GlyphSteps.j0, if_neg (by simp)]
    have hg := stp_gt a b c (by omega)
    have hs := stp_le a b c (by omega)
    have w1 : wrap64 (a : Int) = (a : Int) := wid (by omega) (by omega)
    have w2 : wrap64 (c : Int) = (c : Int) := by clear w1; exact wid (by omega) (by omega)
    have w3 : wrap64 ((stp a b c : Int) - (a : Int)) = (stp a b c : Int) - (a : Int) := by clear w1 w2; exact wid (by omega) (by omega)
    rw [w1, w2, glyph_Step_spec a b c _ rfl (by clear w1 w2 w3; omega) (by clear w1 w2 w3; omega) (by clear w1 w2 w3; omega), Option.bind_some, platenref01_Step_spec a b c _ rfl (by clear w1 w2 w3; omega) (by clear w1 w2 w3; omega) (by clear w1 w2 w3; omega), Option.bind_some, if_pos rfl, w3]
    clear w1 w2 w3
    by_cases h9 : (b : Int) = 9
    · have e9 : b = 9 := by omega
      subst e9
      have em : Int.tmod (stp a 9 c : Int) (c : Int) = ((stp a 9 c % c : Nat) : Int) := by rw [Int.tmod_eq_emod_of_nonneg (by omega)]; rfl
      have ez : stp a 9 c % c = 0 := by
        unfold stp
        rw [if_pos rfl]
        have hd := Nat.div_add_mod a c
        have : a + c - a % c = c * (a / c + 1) := by rw [Nat.mul_add, Nat.mul_one]; omega
        rw [this, Nat.mul_mod_right]
      rw [if_pos h9, if_neg (by omega), em, ez, if_pos (show ((0 : Nat) : Int) = 0 from rfl), if_pos (by omega), decide_eq_true (by omega)]
    · rw [if_neg h9]

end Go.Proofs.YtegeghnmnpklpaaDoor.Pure
