/- Classes. -/
import Derived.Test.YtkdecmgockgmkaaDoorAdRef01blank
import Derived.Test.YtkdecmgockgmkaaDoorGenKeep
import Derived.Test.YtkdecmgockgmkaaDoorPax3
namespace Go.Proofs.YtkdecmgockgmkaaDoor.Ad
open Go Go.RowKit Go.Proofs.YtkdecmgockgmkaaDoor.Pa Go.Proofs.YtkdecmgockgmkaaDoorW.PrintWords Go.Proofs.YtkdecmgockgmkaaDoorW.PrintLast Go.Proofs.YtkdecmgockgmkaaDoorW.PrintMore Go.Proofs.YtkdecmgockgmkaaDoor.Gen
set_option linter.unusedVariables false
set_option linter.unusedSimpArgs false

theorem platenref05_Class_spec (c : Int) : platenref05_Class.f c = some (cls c) := by
  unfold platenref05_Class.f cls
  rw [platenref01_Blank_spec, Option.bind_some]
  simp only [decide_eq_true_eq]
  repeat' split
  all_goals first | rfl | (exfalso; omega)

end Go.Proofs.YtkdecmgockgmkaaDoor.Ad
