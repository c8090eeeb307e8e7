/- Proved: where the program tells a place, by where pieces were and where they are, is where the document's answer tells it, for any place, any end and pieces that the law's numbers make. -/
import Derived.Test.YtemmalkgjfdlcaaAdKeep
import Derived.Test.YtemmalkgjfdlcaaGenBase
import Derived.Test.YtemmalkgjfdlcaaGenKeep
import Derived.Test.YtemmalkgjfdlcaaPax3
namespace Go.Proofs.Ytemmalkgjfdlcaa.Pure
open Go Go.RowKit Go.Proofs.Ytemmalkgjfdlcaa.Pa Go.Proofs.YtemmalkgjfdlcaaW.PrintWords Go.Proofs.YtemmalkgjfdlcaaW.PrintLast Go.Proofs.YtemmalkgjfdlcaaW.PrintMore Go.Proofs.Ytemmalkgjfdlcaa.Gen Go.Proofs.Ytemmalkgjfdlcaa.Ad
set_option linter.unusedVariables false
set_option linter.unusedSimpArgs false

theorem KeepPlaces : platenlaw18_KeepPlaces.Pure := by
  intro at_ a b e hat _ _ ha _ _ hb he
  have ba := bytes_of ha
  have bb := bytes_of hb
  refine ⟨1001, ?_⟩
  unfold platenlaw18_KeepPlaces.f
  rw [platenlaw18_kept_spec 1001 (by omega), Option.bind_some, if_pos rfl]
  have hguard : platenlaw18_KeepPlaces.j0 1001 at_ a b e true = some true := by
    simp only [platenlaw18_KeepPlaces.j0]
    simp only [platenlaw18_kept_spec 1000 (by omega), Option.bind_some, if_true]
  by_cases h1 : (a.length : Int) > 60
  · rw [if_pos h1, hguard]
  · rw [if_neg h1]
    by_cases h2 : (b.length : Int) > 60
    · rw [decide_eq_true h2, hguard]
    · rw [decide_eq_false h2]
      obtain ⟨f, hf, hfl, hfw⟩ := platenlaw18_spans_spec a ba (by omega) 1000 (by omega)
      obtain ⟨t, ht, htl, htw⟩ := platenlaw18_spans_spec b bb (by omega) 1000 (by omega)
      have hfw' : Within f 1000000 := fun x hx => by have := hfw x hx; omega
      have htw' : Within t 1000000 := fun x hx => by have := htw x hx; omega
      simp only [platenlaw18_KeepPlaces.j0]
      rw [if_neg (by simp), hf, Option.bind_some, ht, Option.bind_some, keep_Place_spec _ _ _ _ (by omega) hfw' htw' 1000 (by omega), Option.bind_some, Option.bind_some, Option.bind_some,
        platenref18_Place_spec _ _ _ _ (by omega) hfw' htw' 1000 (by omega), Option.bind_some]
      simp

end Go.Proofs.Ytemmalkgjfdlcaa.Pure
