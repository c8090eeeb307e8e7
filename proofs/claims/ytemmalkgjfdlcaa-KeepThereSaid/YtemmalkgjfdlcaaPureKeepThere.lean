/- Proved: a place carried to the same pieces with other blanks and back is where the same text tells it, no earlier than it was and the same at a piece's byte, for any bytes. -/
import Derived.Test.YtemmalkgjfdlcaaAdKeep
import Derived.Test.YtemmalkgjfdlcaaAdKeep2
import Derived.Test.YtemmalkgjfdlcaaAdSolid
import Derived.Test.YtemmalkgjfdlcaaGenBase
import Derived.Test.YtemmalkgjfdlcaaGenKeep
import Derived.Test.YtemmalkgjfdlcaaPax7
namespace Go.Proofs.Ytemmalkgjfdlcaa.Pure
open Go Go.RowKit Go.Proofs.Ytemmalkgjfdlcaa.Pa Go.Proofs.YtemmalkgjfdlcaaW.PrintWords Go.Proofs.YtemmalkgjfdlcaaW.PrintLast Go.Proofs.YtemmalkgjfdlcaaW.PrintMore Go.Proofs.Ytemmalkgjfdlcaa.Gen Go.Proofs.Ytemmalkgjfdlcaa.Ad
set_option linter.unusedVariables false
set_option linter.unusedSimpArgs false

theorem KeepThere : platenlaw18_KeepThere.Pure := by
  intro a b x _ _ ha _ _ hb hx
  have ba := bytes_of ha
  have bb := bytes_of hb
  have bx := u8_of hx
  refine ⟨100001, ?_⟩
  unfold platenlaw18_KeepThere.f
  rw [platenlaw18_kept_spec 100001 (by omega), Option.bind_some, if_pos rfl]
  have hguard : platenlaw18_KeepThere.j0 100001 a b x true = some true := by
    simp only [platenlaw18_KeepThere.j0]
    simp only [platenlaw18_kept_spec 100000 (by omega), Option.bind_some, if_true]
  by_cases h1 : (a.length : Int) > 200
  · rw [if_pos h1, hguard]
  · rw [if_neg h1]
    by_cases h2 : (b.length : Int) > 100
    · rw [decide_eq_true h2, hguard]
    · rw [decide_eq_false h2]
      obtain ⟨q, e1, e2, bq, hq⟩ := platenlaw18_blanks_spec a b ba bb (by omega) 100000 (by omega)
      obtain ⟨m, hm, hml⟩ : ∃ m : Nat, Int.tmod (wrap64 x) (wrap64 ((a.length : Int) + 1)) = (m : Int) ∧ m ≤ a.length := by
        have w1 : wrap64 x = x := wid (by omega) (by omega)
        have w2 : wrap64 ((a.length : Int) + 1) = (a.length : Int) + 1 := by clear w1; exact wid (by omega) (by omega)
        rw [w1, w2]
        clear w1 w2
        have n1 := Int.tmod_nonneg ((a.length : Int) + 1) bx.1
        have n2 := Int.tmod_lt_of_pos x (b := (a.length : Int) + 1) (by omega)
        exact ⟨(Int.tmod x ((a.length : Int) + 1)).toNat, by omega, by omega⟩
      have hne : ¬ wrap64 ((a.length : Int) + 1) = 0 := by
        have w2 : wrap64 ((a.length : Int) + 1) = (a.length : Int) + 1 := wid (by omega) (by omega)
        rw [w2]; clear w2; omega
      simp only [platenlaw18_KeepThere.j0]
      rw [if_neg (by simp), e1, Option.bind_some, if_neg hne, hm]
      clear hm hne
      have hge := here_ge a (m : Int) (by omega)
      rw [keep_Solid_spec _ _ _ (by omega) (by omega) 100000 (by omega) (by omega), Option.bind_some, keep_Solid_spec _ _ _ (by omega) (by omega) 100000 (by omega) (by omega), Option.bind_some,
        keep_Solid_spec _ _ _ (by omega) (by omega) 100000 (by omega) (by omega), Option.bind_some, if_pos (alike_back e2.symm _), alike_back e2.symm, if_pos hge]
      by_cases hend : (m : Int) = (a.length : Int)
      · rw [if_pos hend]
      · have hlt : m < a.length := by omega
        rw [if_neg hend, if_pos (by omega), if_pos (by omega), rd_nat a m hlt, platenref05_Class_spec, Option.bind_some]
        by_cases hc : cls a[m] < 2
        · rw [if_pos hc]
        · rw [if_neg hc]
          have hnw : ¬ ws a[m] := fun h => hc (by have := cls_ws.2 h; omega)
          rw [here_self a m hlt hnw]
          simp

end Go.Proofs.Ytemmalkgjfdlcaa.Pure
