/- Proved: between two texts alike a later place is told no earlier than an earlier one, nor past the text's end, for any bytes. -/
import Derived.Test.YtemmalkgjfdlcaaAdAlike2
import Derived.Test.YtemmalkgjfdlcaaAdKeep
import Derived.Test.YtemmalkgjfdlcaaGenBase
import Derived.Test.YtemmalkgjfdlcaaGenKeep
import Derived.Test.YtemmalkgjfdlcaaPax7
namespace Go.Proofs.Ytemmalkgjfdlcaa.Pure
open Go Go.RowKit Go.Proofs.Ytemmalkgjfdlcaa.Pa Go.Proofs.YtemmalkgjfdlcaaW.PrintWords Go.Proofs.YtemmalkgjfdlcaaW.PrintLast Go.Proofs.YtemmalkgjfdlcaaW.PrintMore Go.Proofs.Ytemmalkgjfdlcaa.Gen Go.Proofs.Ytemmalkgjfdlcaa.Ad
set_option linter.unusedVariables false
set_option linter.unusedSimpArgs false

theorem KeepOrder : platenlaw18_KeepOrder.Pure := by
  intro a b x y _ _ ha _ _ hb hx hy
  have ba := bytes_of ha
  have bb := bytes_of hb
  have bx := u8_of hx
  have by_ := u8_of hy
  refine ⟨1002, ?_⟩
  unfold platenlaw18_KeepOrder.f
  rw [platenlaw18_kept_spec 1002 (by omega), Option.bind_some, if_pos rfl]
  have hguard : platenlaw18_KeepOrder.j0 1002 a b x y true = some true := by
    simp only [platenlaw18_KeepOrder.j0]
    simp only [platenlaw18_kept_spec 1001 (by omega), Option.bind_some, if_true]
  by_cases h1 : (a.length : Int) > 200
  · rw [if_pos h1, hguard]
  · rw [if_neg h1]
    by_cases h2 : (b.length : Int) > 200
    · rw [decide_eq_true h2, hguard]
    · rw [decide_eq_false h2]
      have key : ∀ u v : Int, 0 ≤ u → u ≤ v → v ≤ 255 → platenlaw18_KeepOrder.j1 1001 a b u v = some true := by
        intro u v h0 huv hv
        have e1 : wrap64 u = u := wid (by omega) (by omega)
        have e2 : wrap64 v = v := by clear e1; exact wid (by omega) (by omega)
        simp only [platenlaw18_KeepOrder.j1, e1, e2]
        clear e1 e2
        rw [platenref05_Alike_spec _ _ ba bb (by omega) (by omega) 1000 (by omega) (by omega), Option.bind_some]
        by_cases hal : texts a = texts b
        · rw [if_pos (decide_eq_true hal), keep_Solid_spec _ _ _ (by omega) (by omega) 1000 (by omega) (by omega), Option.bind_some, keep_Solid_spec _ _ _ (by omega) (by omega) 1000 (by omega) (by omega), Option.bind_some,
            if_pos (alike_mono hal u v huv), Option.bind_some, decide_eq_true (alike_bd hal v).2]
        · rw [if_neg (by simpa using hal)]
      simp only [platenlaw18_KeepOrder.j0]
      rw [if_neg (by simp)]
      by_cases h : x > y
      · rw [if_pos h]; exact key y x (by omega) (by omega) (by omega)
      · rw [if_neg h]; exact key x y (by omega) (by omega) (by omega)

end Go.Proofs.Ytemmalkgjfdlcaa.Pure
