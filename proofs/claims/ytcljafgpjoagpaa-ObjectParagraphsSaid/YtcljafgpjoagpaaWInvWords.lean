-- Of the kit's printed words what this seat's walks come to (cut by wip/tools/prune.py).
import Derived.Test.YtcljafgpjoagpaaWInv
import Derived.Test.YtcljafgpjoagpaaWFootNe
namespace Go.Proofs.YtcljafgpjoagpaaW.PrintWords
open Go.RowKit
end Go.Proofs.YtcljafgpjoagpaaW.PrintWords
namespace Go.Proofs.YtcljafgpjoagpaaW.PrintLast
section
variable {ops : Array Oper} {a : Act} {o og : Oper} {g : Nat} {t : Tmp} {u : Bool}
end
end Go.Proofs.YtcljafgpjoagpaaW.PrintLast
