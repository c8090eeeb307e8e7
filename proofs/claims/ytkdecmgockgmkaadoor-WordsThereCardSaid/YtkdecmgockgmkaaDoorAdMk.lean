/- Pieces as the program's spans. -/
import Derived.Test.YtkdecmgockgmkaaDoorGenKeep
import Derived.Test.YtkdecmgockgmkaaDoorPax0
namespace Go.Proofs.YtkdecmgockgmkaaDoor.Ad
open Go Go.RowKit Go.Proofs.YtkdecmgockgmkaaDoor.Pa Go.Proofs.YtkdecmgockgmkaaDoorW.PrintWords Go.Proofs.YtkdecmgockgmkaaDoorW.PrintLast Go.Proofs.YtkdecmgockgmkaaDoorW.PrintMore Go.Proofs.YtkdecmgockgmkaaDoor.Gen
set_option linter.unusedVariables false
set_option linter.unusedSimpArgs false

def mk (x : NN) : S29 := ⟨(x.1 : Int), (x.2 : Int)⟩
theorem rd_mk (l : List NN) (i : Nat) (h : i < l.length) : rd_T29 (l.map mk) (i : Int) = mk l[i] := by
  simp [rd_T29, h]

end Go.Proofs.YtkdecmgockgmkaaDoor.Ad
