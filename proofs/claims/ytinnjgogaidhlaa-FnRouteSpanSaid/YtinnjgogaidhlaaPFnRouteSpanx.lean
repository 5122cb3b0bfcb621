/- Go functions as plain Lean functions, and for each a proof that its call comes to what the function says; under the conditions that each theorem names. Written by a program of this session. -/
import Derived.Test.YtinnjgogaidhlaaPFnRouteSpanx0
import Derived.Test.YtinnjgogaidhlaaPFnRouteSpanx1
import Derived.Test.YtinnjgogaidhlaaPFnRouteSpanx2
import Derived.Test.YtinnjgogaidhlaaPFnRouteSpanx3
import Derived.Test.YtinnjgogaidhlaaPFnRouteSpanx4
import Derived.Test.YtinnjgogaidhlaaPFnRouteSpanx5
import Derived.Test.YtinnjgogaidhlaaPFnRouteSpanx6
import Derived.Test.YtinnjgogaidhlaaPFnRouteSpanx7
import Derived.Test.YtinnjgogaidhlaaPFnRouteSpanx8
import Derived.Test.YtinnjgogaidhlaaPFnRouteSpanx9
import Derived.Test.YtinnjgogaidhlaaPFnRouteSpanx10
import Derived.Test.YtinnjgogaidhlaaPFnRouteSpanx11
namespace Go.Proofs.Ytinnjgogaidhlaa.PFnRouteSpan
open Go.RowKit Go.Proofs.YtinnjgogaidhlaaW.PrintWords Go.Proofs.YtinnjgogaidhlaaW.PrintLast Go.Proofs.YtinnjgogaidhlaaW.PrintMore
attribute [local go_sem high] str_gtr str_leq str_geq
attribute [local go_sem] max2_int min2_int max_two min_two max_three min_three max_four min_four   -- for this text's walks alone
set_option linter.unusedVariables false
set_option linter.unusedSimpArgs false

end Go.Proofs.Ytinnjgogaidhlaa.PFnRouteSpan
