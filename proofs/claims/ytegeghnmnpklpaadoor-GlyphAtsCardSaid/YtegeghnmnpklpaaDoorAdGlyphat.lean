/- What the program's place of a column computes. -/
import Derived.Test.YtegeghnmnpklpaaDoorAdGlyph
import Derived.Test.YtegeghnmnpklpaaDoorAdUtf8
import Derived.Test.YtegeghnmnpklpaaDoorGenBase
import Derived.Test.YtegeghnmnpklpaaDoorGenCols
import Derived.Test.YtegeghnmnpklpaaDoorGenGlyph
import Derived.Test.YtegeghnmnpklpaaDoorPax8
namespace Go.Proofs.YtegeghnmnpklpaaDoor.Ad
open Go Go.RowKit Go.Proofs.YtegeghnmnpklpaaDoor.Pa Go.Proofs.YtegeghnmnpklpaaDoorW.PrintWords Go.Proofs.YtegeghnmnpklpaaDoorW.PrintLast Go.Proofs.YtegeghnmnpklpaaDoorW.PrintMore Go.Proofs.YtegeghnmnpklpaaDoor.Gen
set_option linter.unusedVariables false
set_option linter.unusedSimpArgs false

theorem glyph_At_l0 (p : List Int) (hb : Bytes p) (col t : Nat) (h0 : 0 < t) (ht : t ≤ 1000) (hp : p.length ≤ 10000) (n : Nat) : ∀ (k x c : Nat), x ≤ p.length → p.length ≤ x + n → c + (p.length - x) * t ≤ 900000000 → n + 1 < k →
    glyph_At.l0 k p (col : Int) (t : Int) (c : Int) (x : Int) = some (atF n p x c col t : Int) := by
  induction n with
  | zero =>
    intro k x c h1 h2 _ hk
    obtain ⟨k, rfl⟩ := ex_succ' hk
    rw [glyph_At.l0, if_neg (by omega)]; rfl
  | succ n ih =>
    intro k x c h1 h2 hc hk
    obtain ⟨k, rfl⟩ := ex_succ' hk
    simp only [atF]
    by_cases h : x < p.length
    · have hg := gd_pos p x h
      have hle := gd_le p x h1
      have hs := stp_le c p[x].toNat t h0
      have hmul : (p.length - (x + gsz (p.drop x))) * t + t ≤ (p.length - x) * t := by
        have := Nat.mul_le_mul_right t (show (p.length - (x + gsz (p.drop x))) + 1 ≤ p.length - x by omega)
        rw [Nat.add_mul, Nat.one_mul] at this; exact this
      have hnext := ih k (x + gsz (p.drop x)) (stp c p[x].toNat t) (by omega) (by omega) (by omega) (by omega)
      have hnx := glyph_Next_spec p hb x h k (by omega)
      rw [glyph_At.l0, if_pos (by omega), if_pos (by omega), rd_nat p x h, glyph_Step_spec c p[x].toNat t _ (byte_nat hb x h) (by omega) (by omega) h0, Option.bind_some, dif_pos h]
      by_cases c1 : col < stp c p[x].toNat t
      · rw [if_pos (by omega), if_pos c1]
      · rw [if_neg (by omega), if_neg c1, hnx, Option.bind_some]
        have hw : wrap64 ((x : Int) + (gsz (p.drop x) : Int)) = ((x + gsz (p.drop x) : Nat) : Int) := by
          rw [← Int.natCast_add]; exact wid (by omega) (by omega)
        rw [hw, hnext]
    · rw [glyph_At.l0, if_neg (by omega), dif_neg h]
theorem glyph_At_spec (p : List Int) (hb : Bytes p) (col t : Nat) (h0 : 0 < t) (ht : t ≤ 1000) (hp : p.length ≤ 10000) (k : Nat) (hk : p.length + 1 < k) :
    glyph_At.f k p (col : Int) (t : Int) = some (at_ p col t : Int) := by
  have hm : p.length * t ≤ 10000 * 1000 := Nat.mul_le_mul hp ht
  have := glyph_At_l0 p hb col t h0 ht hp p.length k 0 0 (by omega) (by omega) (by simp only [Nat.sub_zero]; omega) hk
  simpa [glyph_At.f, at_] using this

end Go.Proofs.YtegeghnmnpklpaaDoor.Ad
