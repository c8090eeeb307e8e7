/- The few signs on which layer 5's laws hang. -/
import Derived.Test.YtkdecmgockgmkaaDoorAdClass
import Derived.Test.YtkdecmgockgmkaaDoorAdWords
import Derived.Test.YtkdecmgockgmkaaDoorAdWords2
import Derived.Test.YtkdecmgockgmkaaDoorGenBase
import Derived.Test.YtkdecmgockgmkaaDoorGenWords
import Derived.Test.YtkdecmgockgmkaaDoorPax2
namespace Go.Proofs.YtkdecmgockgmkaaDoor.Ad
open Go Go.RowKit Go.Proofs.YtkdecmgockgmkaaDoor.Pa Go.Proofs.YtkdecmgockgmkaaDoorW.PrintWords Go.Proofs.YtkdecmgockgmkaaDoorW.PrintLast Go.Proofs.YtkdecmgockgmkaaDoorW.PrintMore Go.Proofs.YtkdecmgockgmkaaDoor.Gen
set_option linter.unusedVariables false
set_option linter.unusedSimpArgs false

theorem platenlaw05_runs_spec (k : Nat) (hk : 30 < k) : platenlaw05_runs.f k = some true := by
  have b1 : Bytes [97, 98, 32, 45] := by intro x hx; simp at hx; omega
  have r1 := words_Runs_spec [97, 98, 32, 45] (by decide) k (by simp only [List.length_cons, List.length_nil]; omega)
  have l1 := words_Last_spec [97, 98, 32, 45] b1 (by decide) 0 k (by simp only [List.length_cons, List.length_nil]; omega)
  have v1 : rn 0 [97, 98, 32, 45] = [(0, 2), (2, 1), (3, 1)] := by decide
  have v2 : lst [97, 98, 32, 45] 0 (wrds [97, 98, 32, 45]) = (1, true) := by decide
  rw [v1] at r1; rw [v2] at l1
  unfold platenlaw05_runs.f
  rw [Option.bind_some, r1, Option.bind_some, l1, Option.bind_some, words_Class_spec, words_Class_spec]
  rfl

end Go.Proofs.YtkdecmgockgmkaaDoor.Ad
