/- Words of the kit's print, those that the texts of this seat come to (prune.py). -/
import Derived.Test.YtjhchjjpopbieaaWInv
import Derived.Test.YtjhchjjpopbieaaWFootNe
namespace Go.Proofs.YtjhchjjpopbieaaW.PrintWords
open Go.RowKit
end Go.Proofs.YtjhchjjpopbieaaW.PrintWords
namespace Go.Proofs.YtjhchjjpopbieaaW.PrintLast
section
variable {ops : Array Oper} {a : Act} {o og : Oper} {g : Nat} {t : Tmp} {u : Bool}
end
end Go.Proofs.YtjhchjjpopbieaaW.PrintLast
