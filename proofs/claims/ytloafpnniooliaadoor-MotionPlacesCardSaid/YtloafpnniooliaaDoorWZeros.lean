-- Of the kit's printed words what this seat's walks come to (cut by wip/tools/prune.py).
import Derived.Test.YtloafpnniooliaaDoorWApart
import Derived.Test.YtloafpnniooliaaDoorWArr
namespace Go.Proofs.YtloafpnniooliaaDoorW.PrintWords
open Go.RowKit
section
variable {P : Program}
end
namespace Kd
section
variable {P : Program} {ops : Array Oper} {rest : List Oper} {o : Oper} {a : Act} {Q : Exit → Act → World → Prop} {Kc : Act → World → Prop} {α : Type}
end
section
variable {α : Type} {d : Kd α} {e : Nat} {w : World} {base : Nat} {ok : Nat → Prop} {v : Value} {xs : List α}
end
section
variable {P : Program} {ops : Array Oper} {rest : List Oper} {o : Oper} {a : Act} {Q : Exit → Act → World → Prop} {Kc : Act → World → Prop} {α : Type}
end
end Kd
end Go.Proofs.YtloafpnniooliaaDoorW.PrintWords
