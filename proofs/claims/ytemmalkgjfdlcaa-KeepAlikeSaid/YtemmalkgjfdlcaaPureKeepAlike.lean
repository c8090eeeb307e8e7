/- Proved: a text is alike to itself and to the same pieces with other blanks, both ways, and not to one with a piece's byte ahead of it, for any bytes. -/
import Derived.Test.YtemmalkgjfdlcaaAdKeep
import Derived.Test.YtemmalkgjfdlcaaAdKeep2
import Derived.Test.YtemmalkgjfdlcaaGenBase
import Derived.Test.YtemmalkgjfdlcaaGenKeep
import Derived.Test.YtemmalkgjfdlcaaPax7
namespace Go.Proofs.Ytemmalkgjfdlcaa.Pure
open Go Go.RowKit Go.Proofs.Ytemmalkgjfdlcaa.Pa Go.Proofs.YtemmalkgjfdlcaaW.PrintWords Go.Proofs.YtemmalkgjfdlcaaW.PrintLast Go.Proofs.YtemmalkgjfdlcaaW.PrintMore Go.Proofs.Ytemmalkgjfdlcaa.Gen Go.Proofs.Ytemmalkgjfdlcaa.Ad
set_option linter.unusedVariables false
set_option linter.unusedSimpArgs false

theorem KeepAlike : platenlaw18_KeepAlike.Pure := by
  intro a b _ _ ha _ _ hb
  have ba := bytes_of ha
  have bb := bytes_of hb
  refine ⟨100001, ?_⟩
  unfold platenlaw18_KeepAlike.f
  rw [platenlaw18_kept_spec 100001 (by omega), Option.bind_some, if_pos rfl]
  have hguard : platenlaw18_KeepAlike.j0 100001 a b true = some true := by
    simp only [platenlaw18_KeepAlike.j0]
    simp only [platenlaw18_kept_spec 100000 (by omega), Option.bind_some, if_true]
  by_cases h1 : (a.length : Int) > 200
  · rw [if_pos h1, hguard]
  · rw [if_neg h1]
    by_cases h2 : (b.length : Int) > 100
    · rw [decide_eq_true h2, hguard]
    · rw [decide_eq_false h2]
      simp only [platenlaw18_KeepAlike.j0]
      obtain ⟨q, e1, e2, bq, hq⟩ := platenlaw18_blanks_spec a b ba bb (by omega) 100000 (by omega)
      have hj : platenref01_Join.f [120] q = some (120 :: q) := by
        unfold platenref01_Join.f
        have c1 : ([] : List Int).length + ([120] : List Int).length < 140737488355328 := by decide
        have c2 : (([] : List Int) ++ [120]).length + q.length < 140737488355328 := by simp only [List.nil_append, List.length_cons, List.length_nil]; omega
        rw [if_pos c1, Option.bind_some, if_pos c2]
        rfl
      have bx : Bytes (120 :: q) := by
        intro x hx
        rcases List.mem_cons.1 hx with rfl | hx
        · omega
        · exact bq x hx
      have hne : texts a ≠ texts (120 :: q) := by
        rw [← e2]
        exact fun h => texts_ahead 120 (by decide) q h.symm
      rw [if_neg (by simp), e1, Option.bind_some, hj, Option.bind_some,
        keep_Alike_spec _ _ ba bq (by omega) (by omega) 100000 (by omega) (by omega), Option.bind_some, if_pos (by simp [e2]),
        keep_Alike_spec _ _ bq ba (by omega) (by omega) 100000 (by omega) (by omega), Option.bind_some, if_pos (by simp [e2]),
        keep_Alike_spec _ _ ba ba (by omega) (by omega) 100000 (by omega) (by omega), Option.bind_some, if_pos (by simp),
        keep_Alike_spec _ _ ba bx (by omega) (by simp only [List.length_cons]; omega) 100000 (by omega) (by simp only [List.length_cons]; omega), Option.bind_some, decide_eq_false hne]
      rfl

end Go.Proofs.Ytemmalkgjfdlcaa.Pure
