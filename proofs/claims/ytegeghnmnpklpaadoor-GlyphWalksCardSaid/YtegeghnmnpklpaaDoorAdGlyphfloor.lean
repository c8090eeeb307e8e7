/- What the program tells of the character that a place lies in. -/
import Derived.Test.YtegeghnmnpklpaaDoorAdUtf8
import Derived.Test.YtegeghnmnpklpaaDoorGenBase
import Derived.Test.YtegeghnmnpklpaaDoorGenGlyph
import Derived.Test.YtegeghnmnpklpaaDoorPax1
namespace Go.Proofs.YtegeghnmnpklpaaDoor.Ad
open Go Go.RowKit Go.Proofs.YtegeghnmnpklpaaDoor.Pa Go.Proofs.YtegeghnmnpklpaaDoorW.PrintWords Go.Proofs.YtegeghnmnpklpaaDoorW.PrintLast Go.Proofs.YtegeghnmnpklpaaDoorW.PrintMore Go.Proofs.YtegeghnmnpklpaaDoor.Gen
set_option linter.unusedVariables false
set_option linter.unusedSimpArgs false

theorem glyph_Floor_l0 (p : List Int) (hb : Bytes p) (hp : p.length ≤ 1000000000) (a : Nat) (ha : a ≤ p.length) (m : Nat) : ∀ (k j : Nat), j + m = min a 3 → m < k → 0 < k - m - 1 → (∀ i, 1 ≤ i → i ≤ j → ¬ a < a - i + gsz (p.drop (a - i))) →
    glyph_Floor.l0 k p (a : Int) ((min a 3 : Nat) : Int) (j : Int) = some (flo p a : Int) := by
  induction m with
  | zero =>
    intro k j hj hk _ hc
    obtain ⟨k, rfl⟩ := ex_succ' hk
    simp only [glyph_Floor.l0]
    rw [if_neg (by omega)]
    unfold flo
    rw [if_neg (fun e => hc 1 (by omega) (by omega) e.2), if_neg (fun e => hc 2 (by omega) (by omega) e.2), if_neg (fun e => hc 3 (by omega) (by omega) e.2)]
  | succ m ih =>
    intro k j hj hk hk2 hc
    obtain ⟨k, rfl⟩ := ex_succ' hk
    simp only [glyph_Floor.l0]
    have hlt : a - (j + 1) < p.length := by omega
    have h4 := gd_four p (a - (j + 1))
    have hnx := glyph_Next_spec p hb (a - (j + 1)) hlt k (by omega)
    have hnext := ih k (j + 1) (by omega) (by omega) (by omega)
    have c1 : (j : Int) < ((min a 3 : Nat) : Int) := by omega
    have w1 : wrap64 ((a : Int) - (j : Int)) = (a : Int) - (j : Int) := wid (by omega) (by omega)
    have w2 : wrap64 ((a : Int) - (j : Int) - 1) = ((a - (j + 1) : Nat) : Int) := by
      clear w1
      rw [show (a : Int) - (j : Int) - 1 = ((a - (j + 1) : Nat) : Int) by omega]; exact wid (by omega) (by omega)
    have w3 : wrap64 (((a - (j + 1) : Nat) : Int) + (gsz (p.drop (a - (j + 1))) : Int)) = ((a - (j + 1) + gsz (p.drop (a - (j + 1))) : Nat) : Int) := by
      clear w1 w2
      rw [← Int.natCast_add]; exact wid (by omega) (by omega)
    have w4 : wrap64 ((j : Int) + 1) = ((j + 1 : Nat) : Int) := by clear w1 w2 w3; exact wnat (by omega)
    rw [if_pos c1, w1, w2, hnx, Option.bind_some, w3, w4]
    clear w1 w2 w3 w4
    by_cases h : a < a - (j + 1) + gsz (p.drop (a - (j + 1)))
    · rw [if_pos (by omega)]
      have hj3 : j + 1 = 1 ∨ j + 1 = 2 ∨ j + 1 = 3 := by omega
      have n1 : 1 ≤ j → ¬ (1 ≤ a ∧ a < a - 1 + gsz (p.drop (a - 1))) := fun e1 e => hc 1 (Nat.le_refl _) e1 e.2
      have n2 : 2 ≤ j → ¬ (2 ≤ a ∧ a < a - 2 + gsz (p.drop (a - 2))) := fun e1 e => hc 2 (by omega) e1 e.2
      have hja : j + 1 ≤ a := by omega
      clear hc hnext hnx
      unfold flo
      rcases hj3 with e | e | e
      · rw [e] at h hja ⊢
        rw [if_pos ⟨hja, h⟩]
      · have := n1 (by omega)
        rw [e] at h hja ⊢
        rw [if_neg this, if_pos ⟨hja, h⟩]
      · have h1 := n1 (by omega)
        have h2 := n2 (by omega)
        rw [e] at h hja ⊢
        rw [if_neg h1, if_neg h2, if_pos ⟨hja, h⟩]
    · rw [if_neg (by omega)]
      exact hnext (fun i h1 h2 => by
        rcases Nat.lt_or_ge i (j + 1) with h3 | h3
        · exact hc i h1 (by omega)
        · have : i = j + 1 := by omega
          subst this; exact h)

/-- A place as the program sees it: no less than none, no more than the text's end. -/
def clip (p : List Int) (a : Int) : Nat := min a.toNat p.length
theorem glyph_Floor_spec (p : List Int) (hb : Bytes p) (hp : p.length ≤ 1000000000) (a : Int) (k : Nat) (hk : 5 < k) : glyph_Floor.f k p a = some (flo p (clip p a) : Int) := by
  have e1 : mn (mx a 0) (p.length : Int) = (clip p a : Int) := by unfold mn mx clip; (repeat' split) <;> omega
  have e2 : mn (clip p a : Int) 3 = ((min (clip p a) 3 : Nat) : Int) := by unfold mn; split <;> omega
  unfold glyph_Floor.f
  rw [e1, e2]
  exact glyph_Floor_l0 p hb hp (clip p a) (by unfold clip; omega) (min (clip p a) 3) k 0 (by omega) (by omega) (by omega) (fun i h1 h2 => by omega)

end Go.Proofs.YtegeghnmnpklpaaDoor.Ad
