/- What the program's count of characters computes. -/
import Derived.Test.YtegeghnmnpklpaaDoorAdUtf8
import Derived.Test.YtegeghnmnpklpaaDoorGenBase
import Derived.Test.YtegeghnmnpklpaaDoorGenGlyph
import Derived.Test.YtegeghnmnpklpaaDoorPax2
namespace Go.Proofs.YtegeghnmnpklpaaDoor.Ad
open Go Go.RowKit Go.Proofs.YtegeghnmnpklpaaDoor.Pa Go.Proofs.YtegeghnmnpklpaaDoorW.PrintWords Go.Proofs.YtegeghnmnpklpaaDoorW.PrintLast Go.Proofs.YtegeghnmnpklpaaDoorW.PrintMore Go.Proofs.YtegeghnmnpklpaaDoor.Gen
set_option linter.unusedVariables false
set_option linter.unusedSimpArgs false

theorem glyph_Count_l0 (p : List Int) (hb : Bytes p) (hp : p.length ≤ 1000000000) (n : Nat) : ∀ (k x c : Nat), x ≤ p.length → p.length ≤ x + n → c ≤ x → n + 1 < k →
    glyph_Count.l0 k p (c : Int) (x : Int) = some ((c + cnt (p.drop x) : Nat) : Int) := by
  induction n with
  | zero =>
    intro k x c h1 h2 hc hk
    obtain ⟨k, rfl⟩ := ex_succ' hk
    simp only [glyph_Count.l0]
    rw [if_neg (by omega), List.drop_eq_nil_of_le (by omega), cnt_nil]; rfl
  | succ n ih =>
    intro k x c h1 h2 hc hk
    obtain ⟨k, rfl⟩ := ex_succ' hk
    simp only [glyph_Count.l0]
    by_cases h : x < p.length
    · have hg := gd_pos p x h
      have hle := gd_le p x h1
      have hnext := ih k (x + gsz (p.drop x)) (c + 1) (by omega) (by omega) (by omega) (by omega)
      rw [if_pos (by omega), glyph_Next_spec p hb x h k (by omega), Option.bind_some]
      have hcc : c + cnt (p.drop x) = c + 1 + cnt (p.drop (x + gsz (p.drop x))) := by
        rw [cnt_cons (q := p.drop x) (by simp; omega), List.drop_drop]; omega
      have w1 : wrap64 ((c : Int) + 1) = ((c + 1 : Nat) : Int) := wnat (by omega)
      have w2 : wrap64 ((x : Int) + (gsz (p.drop x) : Int)) = ((x + gsz (p.drop x) : Nat) : Int) := by
        clear w1
        rw [← Int.natCast_add]; exact wid (by omega) (by omega)
      rw [w1, w2, hnext, hcc]
    · rw [if_neg (by omega), List.drop_eq_nil_of_le (by omega), cnt_nil]; rfl
theorem glyph_Count_spec (p : List Int) (hb : Bytes p) (hp : p.length ≤ 1000000000) (k : Nat) (hk : p.length + 1 < k) : glyph_Count.f k p = some (cnt p : Int) := by
  have := glyph_Count_l0 p hb hp p.length k 0 0 (by omega) (by omega) (by omega) hk
  simpa [glyph_Count.f] using this

end Go.Proofs.YtegeghnmnpklpaaDoor.Ad
