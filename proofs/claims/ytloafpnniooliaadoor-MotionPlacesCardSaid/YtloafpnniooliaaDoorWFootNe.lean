-- Of the kit's printed words what this seat's walks come to (cut by wip/tools/prune.py).
import Derived.Test.YtloafpnniooliaaDoorWN
namespace Go.Proofs.YtloafpnniooliaaDoorW.PrintWords
open Go.RowKit
namespace Kd
section
variable {α : Type} {d : Kd α} {W : World} {g n : Nat} {S ok : Nat → Prop} {A : Option Addr} {ad : Addr} {xs : List α}
end
end Kd
end Go.Proofs.YtloafpnniooliaaDoorW.PrintWords
