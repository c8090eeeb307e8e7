-- Of the kit's printed words what this seat's walks come to (cut by wip/tools/prune.py).
import Derived.Test.YtcljafgpjoagpaaDoorWWords
import Derived.Laws.StructEq
namespace Go.Proofs.YtcljafgpjoagpaaDoorW.PrintWords
open Go.RowKit
section
variable {P : Program} {d : Nat} {xs ys : Array Value} {f : Field} {fs : List Field} {a b : Value} {r s : Bool} {w : World}
end
end Go.Proofs.YtcljafgpjoagpaaDoorW.PrintWords
