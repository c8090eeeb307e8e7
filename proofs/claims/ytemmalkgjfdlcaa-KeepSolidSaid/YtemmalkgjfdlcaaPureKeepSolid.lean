/- Proved: the place and the likeness that the program tells are the document's, for any two texts within the law's bounds. -/
import Derived.Test.YtemmalkgjfdlcaaAdAlike2
import Derived.Test.YtemmalkgjfdlcaaAdKeep
import Derived.Test.YtemmalkgjfdlcaaAdKeep2
import Derived.Test.YtemmalkgjfdlcaaGenBase
import Derived.Test.YtemmalkgjfdlcaaPax4
namespace Go.Proofs.Ytemmalkgjfdlcaa.Pure
open Go Go.RowKit Go.Proofs.Ytemmalkgjfdlcaa.Pa Go.Proofs.YtemmalkgjfdlcaaW.PrintWords Go.Proofs.YtemmalkgjfdlcaaW.PrintLast Go.Proofs.YtemmalkgjfdlcaaW.PrintMore Go.Proofs.Ytemmalkgjfdlcaa.Gen Go.Proofs.Ytemmalkgjfdlcaa.Ad
set_option linter.unusedVariables false
set_option linter.unusedSimpArgs false

theorem KeepSolid : platenlaw18_KeepSolid.Pure := by
  intro at_ a b hat _ _ ha _ _ hb
  have ba := bytes_of ha
  have bb := bytes_of hb
  refine ⟨1001, ?_⟩
  unfold platenlaw18_KeepSolid.f
  rw [platenlaw18_kept_spec 1001 (by omega), Option.bind_some, if_pos rfl]
  have hguard : platenlaw18_KeepSolid.j0 1001 at_ a b true = some true := by
    simp only [platenlaw18_KeepSolid.j0]
    simp only [platenlaw18_kept_spec 1000 (by omega), Option.bind_some, if_true]
  by_cases h1 : (a.length : Int) > 200
  · rw [if_pos h1, hguard]
  · rw [if_neg h1]
    by_cases h2 : (b.length : Int) > 200
    · rw [decide_eq_true h2, hguard]
    · rw [decide_eq_false h2]
      simp only [platenlaw18_KeepSolid.j0]
      rw [if_neg (by simp), keep_Solid_spec _ _ _ (by omega) (by omega) 1000 (by omega) (by omega), Option.bind_some, platenref18_Solid_spec _ _ _ (by omega) (by omega) 1000 (by omega) (by omega), Option.bind_some,
        if_pos rfl, keep_Alike_spec _ _ ba bb (by omega) (by omega) 1000 (by omega) (by omega), Option.bind_some, platenref05_Alike_spec _ _ ba bb (by omega) (by omega) 1000 (by omega) (by omega), Option.bind_some]
      simp

end Go.Proofs.Ytemmalkgjfdlcaa.Pure
