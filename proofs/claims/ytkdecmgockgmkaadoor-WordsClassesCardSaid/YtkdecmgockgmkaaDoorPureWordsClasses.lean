/- Proved: the class of a byte is the document's, for any byte. -/
import Derived.Test.YtkdecmgockgmkaaDoorAdClass
import Derived.Test.YtkdecmgockgmkaaDoorAdRef05class
import Derived.Test.YtkdecmgockgmkaaDoorAdSigns05
import Derived.Test.YtkdecmgockgmkaaDoorGenWords
import Derived.Test.YtkdecmgockgmkaaDoorPax3
namespace Go.Proofs.YtkdecmgockgmkaaDoor.Pure
open Go Go.RowKit Go.Proofs.YtkdecmgockgmkaaDoor.Pa Go.Proofs.YtkdecmgockgmkaaDoorW.PrintWords Go.Proofs.YtkdecmgockgmkaaDoorW.PrintLast Go.Proofs.YtkdecmgockgmkaaDoorW.PrintMore Go.Proofs.YtkdecmgockgmkaaDoor.Gen Go.Proofs.YtkdecmgockgmkaaDoor.Ad
set_option linter.unusedVariables false
set_option linter.unusedSimpArgs false

theorem WordsClasses : platenlaw05_WordsClasses.Pure := by
  intro a ha
  refine ⟨40, ?_⟩
  unfold platenlaw05_WordsClasses.f
  rw [platenlaw05_runs_spec 40 (by omega), Option.bind_some, if_pos rfl, words_Class_spec, Option.bind_some, platenref05_Class_spec, Option.bind_some, if_pos rfl]

end Go.Proofs.YtkdecmgockgmkaaDoor.Pure
