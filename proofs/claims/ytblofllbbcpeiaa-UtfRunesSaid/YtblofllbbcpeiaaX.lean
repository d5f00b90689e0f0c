/- Printed by a program of this session (xprint) out of the kit's print, with functions proved by hand. -/
import Derived.Test.YtblofllbbcpeiaaX0
import Derived.Test.YtblofllbbcpeiaaX1
import Derived.Test.YtblofllbbcpeiaaX2
import Derived.Test.YtblofllbbcpeiaaX3
import Derived.Test.YtblofllbbcpeiaaX4
import Derived.Test.YtblofllbbcpeiaaX5
import Derived.Test.YtblofllbbcpeiaaX6
import Derived.Test.YtblofllbbcpeiaaX7
import Derived.Test.YtblofllbbcpeiaaX8
import Derived.Test.YtblofllbbcpeiaaX9
namespace Go.Proofs.Ytblofllbbcpeiaa.X
open Go.RowKit Go.Proofs.YtblofllbbcpeiaaW.PrintWords Go.Proofs.YtblofllbbcpeiaaW.PrintLast Go.Proofs.YtblofllbbcpeiaaW.PrintMore Go.Proofs.YtblofllbbcpeiaaW.XConv
attribute [local go_sem] max2_int min2_int max_two min_two max_three min_three max_four min_four   -- for this text's walks alone
set_option linter.unusedVariables false
set_option linter.unusedSimpArgs false

end Go.Proofs.Ytblofllbbcpeiaa.X
