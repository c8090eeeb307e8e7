-- Of the kit's printed words what this seat's walks come to (cut by wip/tools/prune.py).
import Derived.Test.YtloafpnniooliaaDoorWInv
import Derived.Test.YtloafpnniooliaaDoorWFootNe
namespace Go.Proofs.YtloafpnniooliaaDoorW.PrintWords
open Go.RowKit
end Go.Proofs.YtloafpnniooliaaDoorW.PrintWords
namespace Go.Proofs.YtloafpnniooliaaDoorW.PrintLast
section
variable {ops : Array Oper} {a : Act} {o og : Oper} {g : Nat} {t : Tmp} {u : Bool}
end
end Go.Proofs.YtloafpnniooliaaDoorW.PrintLast
