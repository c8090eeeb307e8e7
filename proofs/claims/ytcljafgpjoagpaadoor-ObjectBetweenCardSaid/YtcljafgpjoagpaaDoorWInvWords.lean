-- Of the kit's printed words what this seat's walks come to (cut by wip/tools/prune.py).
import Derived.Test.YtcljafgpjoagpaaDoorWInv
import Derived.Test.YtcljafgpjoagpaaDoorWFootNe
namespace Go.Proofs.YtcljafgpjoagpaaDoorW.PrintWords
open Go.RowKit
end Go.Proofs.YtcljafgpjoagpaaDoorW.PrintWords
namespace Go.Proofs.YtcljafgpjoagpaaDoorW.PrintLast
section
variable {ops : Array Oper} {a : Act} {o og : Oper} {g : Nat} {t : Tmp} {u : Bool}
end
end Go.Proofs.YtcljafgpjoagpaaDoorW.PrintLast
