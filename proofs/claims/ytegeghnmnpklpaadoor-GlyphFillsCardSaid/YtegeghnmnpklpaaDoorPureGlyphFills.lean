/- Proved: what fills a width is the document's: blanks alone, spaces alone where they are asked for, and as wide, for any columns and tab width. -/
import Derived.Test.YtegeghnmnpklpaaDoorAdGlyphfill
import Derived.Test.YtegeghnmnpklpaaDoorAdGlyphwide
import Derived.Test.YtegeghnmnpklpaaDoorAdRef01fill
import Derived.Test.YtegeghnmnpklpaaDoorAdSame
import Derived.Test.YtegeghnmnpklpaaDoorAdSigns01
import Derived.Test.YtegeghnmnpklpaaDoorAdUtf8
import Derived.Test.YtegeghnmnpklpaaDoorGenBase
import Derived.Test.YtegeghnmnpklpaaDoorGenCols
import Derived.Test.YtegeghnmnpklpaaDoorPax10
import Derived.Test.YtegeghnmnpklpaaDoorPax7
namespace Go.Proofs.YtegeghnmnpklpaaDoor.Pure
open Go Go.RowKit Go.Proofs.YtegeghnmnpklpaaDoor.Pa Go.Proofs.YtegeghnmnpklpaaDoorW.PrintWords Go.Proofs.YtegeghnmnpklpaaDoorW.PrintLast Go.Proofs.YtegeghnmnpklpaaDoorW.PrintMore Go.Proofs.YtegeghnmnpklpaaDoor.Gen Go.Proofs.YtegeghnmnpklpaaDoor.Ad
set_option linter.unusedVariables false
set_option linter.unusedSimpArgs false

theorem GlyphFills_l0 (s : List Int) (sp : Bool) (c w t : Nat) (hs : ∀ x ∈ s, (x = 32 ∨ x = 9) ∧ (sp = true → x = 32)) (h0 : 0 < t) (ht : t ≤ 1000) (hl : s.length ≤ 1000) (hc : c ≤ 1000) (he : w ≤ c → s = []) (hw : c < w → wid_ s c t = w) (n : Nat) : ∀ (k i : Nat), i + n = s.length → n + s.length + 2 < k →
    platenlaw01_GlyphFills.l0 k sp (c : Int) (w : Int) (t : Int) s (i : Int) = some true := by
  have bs : Bytes s := fun x hx => by have := (hs x hx).1; omega
  induction n with
  | zero =>
    intro k i hi hk
    obtain ⟨k, rfl⟩ := ex_succ' hk
    rw [platenlaw01_GlyphFills.l0, if_neg (by omega)]
    by_cases h : w ≤ c
    · rw [if_pos (by omega), he h]; rfl
    · rw [if_neg (by omega), glyph_Wide_spec s bs c t h0 ht (by omega) (by omega) k (by omega), Option.bind_some, hw (by omega)]
      simp
  | succ n ih =>
    intro k i hi hk
    obtain ⟨k, rfl⟩ := ex_succ' hk
    have hlt : i < s.length := by omega
    have hx := hs _ (List.getElem_mem hlt)
    have hnext := ih k (i + 1) (by omega) (by omega)
    rw [platenlaw01_GlyphFills.l0, if_pos (by omega), if_pos (by omega), rd_nat s i hlt]
    have hbl : glyph_Blank.f s[i] = some true := by
      unfold glyph_Blank.f
      rcases hx.1 with h | h
      · rw [if_pos h]
      · rw [if_neg (by omega), h]; rfl
    have w1 : wrap64 ((i : Int) + 1) = ((i + 1 : Nat) : Int) := wnat (by omega)
    rw [hbl, Option.bind_some, if_pos rfl, w1, hnext]
    cases sp with
    | true => rw [if_pos rfl, if_pos (hx.2 rfl)]
    | false => rw [if_neg (by simp)]
theorem GlyphFills : platenlaw01_GlyphFills.Pure := by
  intro a b c sp ha hb hc
  have ba := u8_of ha
  have bb := u8_of hb
  have bc := u8_of hc
  refine ⟨1501, ?_⟩
  unfold platenlaw01_GlyphFills.f
  rw [platenlaw01_signs_spec 1501 (by omega), Option.bind_some, if_pos rfl]
  obtain ⟨a, rfl⟩ : ∃ n : Nat, a = (n : Int) := ⟨a.toNat, by omega⟩
  obtain ⟨b, rfl⟩ : ∃ n : Nat, b = (n : Int) := ⟨b.toNat, by omega⟩
  obtain ⟨c, rfl⟩ : ∃ n : Nat, c = (n : Int) := ⟨c.toNat, by omega⟩
  clear ha hb hc
  by_cases h : c = 0
  · subst h
    rw [show (((0 : Nat) : Int) == 0) = true from rfl, platenlaw01_GlyphFills.j0, if_pos rfl, platenlaw01_signs_spec 1500 (by omega), Option.bind_some]
  · rw [show ((c : Int) == 0) = false by simpa using h, platenlaw01_GlyphFills.j0, if_neg (by simp)]
    have w1 : wrap64 (a : Int) = (a : Int) := wid (by omega) (by omega)
    have w2 : wrap64 (b : Int) = (b : Int) := by clear w1; exact wid (by omega) (by omega)
    have w3 : wrap64 (c : Int) = (c : Int) := by clear w1 w2; exact wid (by omega) (by omega)
    rw [w1, w2, w3]
    clear w1 w2 w3
    have hl : (fill a b c sp).length ≤ b - a := fillF_len b c sp (b - a) a
    rw [glyph_Fill_spec a b c sp (by omega) (by omega) (by omega) (by omega) 1500 (by omega) (by omega), Option.bind_some, platenref01_Fill_spec a b c sp (by omega) (by omega) (by omega) (by omega) 1500 (by omega) (by omega), Option.bind_some,
      platenref01_Same_spec _ _ (by omega) 1500 (by omega), Option.bind_some, if_pos (by simp)]
    exact GlyphFills_l0 (fill a b c sp) sp a b c (fillF_mem b c sp (b - a) a) (by omega) (by omega) (by omega) (by omega) (fun hle => by
      unfold fill; rw [show b - a = 0 by omega]; rfl) (fun hlt => fillF_wid b c sp (b - a) a (by omega) (by omega)) (fill a b c sp).length 1500 0 (by omega) (by omega)

end Go.Proofs.YtegeghnmnpklpaaDoor.Pure
