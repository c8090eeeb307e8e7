/- Classes. -/
import Derived.Test.YtkdecmgockgmkaaDoorAdBlank
import Derived.Test.YtkdecmgockgmkaaDoorGenKeep
import Derived.Test.YtkdecmgockgmkaaDoorPax1
import Derived.Test.YtkdecmgockgmkaaDoorPax2
namespace Go.Proofs.YtkdecmgockgmkaaDoor.Ad
open Go Go.RowKit Go.Proofs.YtkdecmgockgmkaaDoor.Pa Go.Proofs.YtkdecmgockgmkaaDoorW.PrintWords Go.Proofs.YtkdecmgockgmkaaDoorW.PrintLast Go.Proofs.YtkdecmgockgmkaaDoorW.PrintMore Go.Proofs.YtkdecmgockgmkaaDoor.Gen
set_option linter.unusedVariables false
set_option linter.unusedSimpArgs false

theorem words_empty_spec (c : Int) : words_empty.f c = some (decide (c ≤ 1)) := rfl
theorem words_Class_spec (c : Int) : words_Class.f c = some (cls c) := by
  unfold words_Class.f cls
  rw [glyph_Blank_spec, Option.bind_some]
  simp only [decide_eq_true_eq]
  repeat' split
  all_goals first | rfl | (exfalso; omega)

end Go.Proofs.YtkdecmgockgmkaaDoor.Ad
