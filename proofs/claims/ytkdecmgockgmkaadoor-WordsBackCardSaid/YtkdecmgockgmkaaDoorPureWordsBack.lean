/- Proved: the last word's start ahead of a place is the document's, for any bytes and place. -/
import Derived.Test.YtkdecmgockgmkaaDoorAdSigns05
import Derived.Test.YtkdecmgockgmkaaDoorAdWords2
import Derived.Test.YtkdecmgockgmkaaDoorGenBase
import Derived.Test.YtkdecmgockgmkaaDoorGenWords
import Derived.Test.YtkdecmgockgmkaaDoorPax8
namespace Go.Proofs.YtkdecmgockgmkaaDoor.Pure
open Go Go.RowKit Go.Proofs.YtkdecmgockgmkaaDoor.Pa Go.Proofs.YtkdecmgockgmkaaDoorW.PrintWords Go.Proofs.YtkdecmgockgmkaaDoorW.PrintLast Go.Proofs.YtkdecmgockgmkaaDoorW.PrintMore Go.Proofs.YtkdecmgockgmkaaDoor.Gen Go.Proofs.YtkdecmgockgmkaaDoor.Ad
set_option linter.unusedVariables false
set_option linter.unusedSimpArgs false

theorem WordsBack : platenlaw05_WordsBack.Pure := by
  intro p a _ _ hp ha
  have bp := bytes_of hp
  refine ⟨1001, ?_⟩
  unfold platenlaw05_WordsBack.f
  rw [platenlaw05_runs_spec 1001 (by omega), Option.bind_some, if_pos rfl]
  by_cases h : (p.length : Int) > 300
  · rw [decide_eq_true h, platenlaw05_WordsBack.j0, if_pos rfl, platenlaw05_runs_spec 1000 (by omega), Option.bind_some]
  · rw [decide_eq_false h, platenlaw05_WordsBack.j0, if_neg (by simp), words_Back_spec p (by omega) a 1000 (by omega), Option.bind_some, platenref05_Back_spec p (by omega) a 1000 (by omega), Option.bind_some, if_pos rfl]
    simp

end Go.Proofs.YtkdecmgockgmkaaDoor.Pure
