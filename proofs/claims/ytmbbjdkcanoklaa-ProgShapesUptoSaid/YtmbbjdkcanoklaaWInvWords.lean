/- Words of the kit's print, those that the texts of this seat come to (prune.py). -/
import Derived.Test.YtmbbjdkcanoklaaWInv
import Derived.Test.YtmbbjdkcanoklaaWFootNe
namespace Go.Proofs.YtmbbjdkcanoklaaW.PrintWords
open Go.RowKit
end Go.Proofs.YtmbbjdkcanoklaaW.PrintWords
namespace Go.Proofs.YtmbbjdkcanoklaaW.PrintLast
section
variable {ops : Array Oper} {a : Act} {o og : Oper} {g : Nat} {t : Tmp} {u : Bool}
end
end Go.Proofs.YtmbbjdkcanoklaaW.PrintLast
