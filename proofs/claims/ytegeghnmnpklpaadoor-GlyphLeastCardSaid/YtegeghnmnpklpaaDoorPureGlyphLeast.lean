/- Proved: what fills a width is no longer than any blanks as wide, for any blanks, column and tab width. -/
import Derived.Test.YtegeghnmnpklpaaDoorAdGlyphfill
import Derived.Test.YtegeghnmnpklpaaDoorAdGlyphwide
import Derived.Test.YtegeghnmnpklpaaDoorAdSigns01
import Derived.Test.YtegeghnmnpklpaaDoorAdUtf8
import Derived.Test.YtegeghnmnpklpaaDoorGenBase
import Derived.Test.YtegeghnmnpklpaaDoorGenCols
import Derived.Test.YtegeghnmnpklpaaDoorPax9
namespace Go.Proofs.YtegeghnmnpklpaaDoor.Pure
open Go Go.RowKit Go.Proofs.YtegeghnmnpklpaaDoor.Pa Go.Proofs.YtegeghnmnpklpaaDoorW.PrintWords Go.Proofs.YtegeghnmnpklpaaDoorW.PrintLast Go.Proofs.YtegeghnmnpklpaaDoorW.PrintMore Go.Proofs.YtegeghnmnpklpaaDoor.Gen Go.Proofs.YtegeghnmnpklpaaDoor.Ad
set_option linter.unusedVariables false
set_option linter.unusedSimpArgs false

theorem GlyphLeast_l0 (p : List Int) (bp : Bytes p) (hp : p.length ≤ 100) (a c : Nat) (ha : a ≤ 255) (hc : c ≤ 255) (h0 : 0 < c) (n : Nat) : ∀ (k i : Nat) (acc : List Int), i + n = p.length → acc.length = i → (∀ x ∈ acc, x = 32 ∨ x = 9) → n + 30000 < k →
    platenlaw01_GlyphLeast.l0 k p (a : Int) (c : Int) acc (i : Int) = some true := by
  induction n with
  | zero =>
    intro k i acc hi hl hm hk
    obtain ⟨k, rfl⟩ := ex_succ' hk
    have bs : Bytes acc := fun x hx => by have := hm x hx; omega
    have hw := wid_le acc.length acc a c (Nat.le_refl _) h0
    have hm1 : acc.length * c ≤ 100 * 255 := Nat.mul_le_mul (by omega) (by omega)
    have hfl : (fill a (wid_ acc a c) c false).length ≤ wid_ acc a c - a := fillF_len _ c false _ a
    have hleast := fl_least c h0 acc a hm
    have hfw : wid_ (fill a (wid_ acc a c) c false) a c = wid_ acc a c := fillF_wid _ c false _ a (by omega) (by omega)
    have bf : Bytes (fill a (wid_ acc a c) c false) := fun x hx => by have := (fillF_mem _ c false _ a x hx).1; omega
    have w1 : wrap64 (a : Int) = (a : Int) := wid (by omega) (by omega)
    have w3 : wrap64 (c : Int) = (c : Int) := by clear w1; exact wid (by omega) (by omega)
    rw [platenlaw01_GlyphLeast.l0, if_neg (by clear w1 w3; omega), w1, w3]
    clear w1 w3
    rw [glyph_Wide_spec acc bs a c h0 (by omega) (by omega) (by omega) k (by omega), Option.bind_some, glyph_Fill_spec a _ c false h0 (by omega) (by omega) (by omega) k (by omega) (by omega), Option.bind_some]
    unfold fl at hleast
    rw [if_pos (by omega), glyph_Wide_spec _ bf a c h0 (by omega) (by omega) (by omega) k (by omega), Option.bind_some, hfw]
    simp
  | succ n ih =>
    intro k i acc hi hl hm hk
    obtain ⟨k, rfl⟩ := ex_succ' hk
    have hlt : i < p.length := by omega
    have hnext : ∀ v : Int, v = 32 ∨ v = 9 → platenlaw01_GlyphLeast.l0 k p (a : Int) (c : Int) (acc ++ [v]) ((i + 1 : Nat) : Int) = some true := fun v hv => ih k (i + 1) (acc ++ [v]) (by omega) (by simp [hl]) (fun x hx => by
      rcases List.mem_append.1 hx with hx | hx
      · exact hm x hx
      · simp at hx; subst hx; exact hv) (by omega)
    have hal : acc.length < 140737488355328 := by omega
    rw [platenlaw01_GlyphLeast.l0, if_pos (by omega), if_pos (by omega)]
    have w1 : wrap64 ((i : Int) + 1) = ((i + 1 : Nat) : Int) := wnat (by omega)
    rw [if_pos hal, if_pos hal, w1, hnext 32 (.inl rfl), hnext 9 (.inr rfl)]
    split <;> rfl
theorem GlyphLeast : platenlaw01_GlyphLeast.Pure := by
  intro p a c _ _ hp ha hc
  have bp := bytes_of hp
  have ba := u8_of ha
  have bc := u8_of hc
  refine ⟨40001, ?_⟩
  unfold platenlaw01_GlyphLeast.f
  rw [platenlaw01_signs_spec 40001 (by omega), Option.bind_some, if_pos rfl]
  have hguard : platenlaw01_GlyphLeast.j0 40001 p a c true = some true := by
    rw [platenlaw01_GlyphLeast.j0, if_pos rfl, platenlaw01_signs_spec 40000 (by omega), Option.bind_some]
  obtain ⟨a, rfl⟩ : ∃ n : Nat, a = (n : Int) := ⟨a.toNat, by omega⟩
  obtain ⟨c, rfl⟩ : ∃ n : Nat, c = (n : Int) := ⟨c.toNat, by omega⟩
  clear ha hc
  by_cases h1 : (p.length : Int) > 100
  · rw [if_pos h1, hguard]
  · rw [if_neg h1]
    by_cases h2 : c = 0
    · subst h2
      rw [show (((0 : Nat) : Int) == 0) = true from rfl, hguard]
    · rw [show ((c : Int) == 0) = false by simpa using h2, platenlaw01_GlyphLeast.j0, if_neg (by simp)]
      exact GlyphLeast_l0 p bp (by omega) a c (by omega) (by omega) (by omega) p.length 40000 0 [] (by omega) rfl (by simp) (by omega)

end Go.Proofs.YtegeghnmnpklpaaDoor.Pure
