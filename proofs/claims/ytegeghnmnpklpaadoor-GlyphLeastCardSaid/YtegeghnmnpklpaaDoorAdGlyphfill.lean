/- What the program's filling of a width computes. -/
import Derived.Test.YtegeghnmnpklpaaDoorAdGlyph
import Derived.Test.YtegeghnmnpklpaaDoorAdUtf8
import Derived.Test.YtegeghnmnpklpaaDoorGenBase
import Derived.Test.YtegeghnmnpklpaaDoorGenCols
import Derived.Test.YtegeghnmnpklpaaDoorPax2
import Derived.Test.YtegeghnmnpklpaaDoorPax8
namespace Go.Proofs.YtegeghnmnpklpaaDoor.Ad
open Go Go.RowKit Go.Proofs.YtegeghnmnpklpaaDoor.Pa Go.Proofs.YtegeghnmnpklpaaDoorW.PrintWords Go.Proofs.YtegeghnmnpklpaaDoorW.PrintLast Go.Proofs.YtegeghnmnpklpaaDoorW.PrintMore Go.Proofs.YtegeghnmnpklpaaDoor.Gen
set_option linter.unusedVariables false
set_option linter.unusedSimpArgs false

theorem glyph_Fill_l0 (w t : Nat) (sp : Bool) (h0 : 0 < t) (ht : t ≤ 1000) (hw : w ≤ 100000000) (n : Nat) : ∀ (k c : Nat) (acc : List Int), w ≤ c + n → c ≤ 100000000 → acc.length + n ≤ 200000000 → n < k →
    glyph_Fill.l0 k (c : Int) (w : Int) (t : Int) sp acc = some (acc ++ fillF n c w t sp) := by
  induction n with
  | zero =>
    intro k c acc h1 h2 _ hk
    obtain ⟨k, rfl⟩ := ex_succ' hk
    simp only [glyph_Fill.l0, fillF]
    rw [if_neg (by omega), List.append_nil]
  | succ n ih =>
    intro k c acc h1 h2 ha hk
    obtain ⟨k, rfl⟩ := ex_succ' hk
    have hg := stp_gt c 9 t h0
    have hs := stp_le c 9 t h0
    have e9 := glyph_Step_spec c 9 t 9 rfl (by omega) (by omega) h0
    have e32 : glyph_Step.f (c : Int) 32 (t : Int) = some ((c + 1 : Nat) : Int) := glyph_Step_spec c 32 t 32 rfl (by omega) (by omega) h0
    have hal : acc.length < 140737488355328 := by omega
    have hn32 : c < w → glyph_Fill.l0 k ((c + 1 : Nat) : Int) (w : Int) (t : Int) sp (acc ++ [32]) = some (acc ++ 32 :: fillF n (c + 1) w t sp) := by
      intro hcw
      rw [ih k (c + 1) (acc ++ [32]) (by omega) (by omega) (by simp only [List.length_append, List.length_cons, List.length_nil]; omega) (by omega), List.append_assoc]
      rfl
    simp only [glyph_Fill.l0, fillF]
    by_cases h : c < w
    · have hw1 : wrap64 ((stp c 9 t : Int) - (c : Int)) = (stp c 9 t : Int) - (c : Int) := wid (by omega) (by omega)
      rw [if_pos (by omega), if_pos h, e9, Option.bind_some, hw1, e32]
      simp only [Option.bind_some, if_pos hal]
      clear hw1
      cases sp with
      | true =>
        rw [if_pos rfl, if_neg (by simp)]
        exact hn32 h
      | false =>
        rw [if_neg (by simp)]
        by_cases g1 : stp c 9 t ≤ w
        · rw [if_pos (by omega)]
          by_cases g2 : c + 1 < stp c 9 t
          · rw [if_pos (by omega), if_pos ⟨rfl, g1, g2⟩, ih k (stp c 9 t) (acc ++ [9]) (by omega) (by omega) (by simp only [List.length_append, List.length_cons, List.length_nil]; omega) (by omega), List.append_assoc]
            rfl
          · rw [if_neg (by omega), if_neg (fun e => g2 e.2.2)]
            exact hn32 h
        · rw [if_neg (by omega), if_neg (fun e => g1 e.2.1)]
          exact hn32 h
    · rw [if_neg (by omega), if_neg h, List.append_nil]
theorem glyph_Fill_spec (c w t : Nat) (sp : Bool) (h0 : 0 < t) (ht : t ≤ 1000) (hc : c ≤ 10000000) (hw : w ≤ 10000000) (k : Nat) (hk : w < k + c) (hk0 : 0 < k) : glyph_Fill.f k (c : Int) (w : Int) (t : Int) sp = some (fill c w t sp) := by
  have := glyph_Fill_l0 w t sp h0 ht (by omega) (w - c) k c [] (by omega) (by omega) (by simp; omega) (by omega)
  simpa [glyph_Fill.f, fill] using this

end Go.Proofs.YtegeghnmnpklpaaDoor.Ad
