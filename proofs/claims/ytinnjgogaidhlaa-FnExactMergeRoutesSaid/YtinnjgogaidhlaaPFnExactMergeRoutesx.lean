/- Go functions as plain Lean functions, and for each a proof that its call comes to what the function says; under the conditions that each theorem names. Written by a program of this session. -/
import Derived.Test.YtinnjgogaidhlaaPFnExactMergeRoutesx0
import Derived.Test.YtinnjgogaidhlaaPFnExactMergeRoutesx1
import Derived.Test.YtinnjgogaidhlaaPFnExactMergeRoutesx2
import Derived.Test.YtinnjgogaidhlaaPFnExactMergeRoutesx3
import Derived.Test.YtinnjgogaidhlaaPFnExactMergeRoutesx4
import Derived.Test.YtinnjgogaidhlaaPFnExactMergeRoutesx5
import Derived.Test.YtinnjgogaidhlaaPFnExactMergeRoutesx6
import Derived.Test.YtinnjgogaidhlaaPFnExactMergeRoutesx7
import Derived.Test.YtinnjgogaidhlaaPFnExactMergeRoutesx8
import Derived.Test.YtinnjgogaidhlaaPFnExactMergeRoutesx9
import Derived.Test.YtinnjgogaidhlaaPFnExactMergeRoutesx10
import Derived.Test.YtinnjgogaidhlaaPFnExactMergeRoutesx11
import Derived.Test.YtinnjgogaidhlaaPFnExactMergeRoutesx12
import Derived.Test.YtinnjgogaidhlaaPFnExactMergeRoutesx13
import Derived.Test.YtinnjgogaidhlaaPFnExactMergeRoutesx14
namespace Go.Proofs.Ytinnjgogaidhlaa.PFnExactMergeRoutes
open Go.RowKit Go.Proofs.YtinnjgogaidhlaaW.PrintWords Go.Proofs.YtinnjgogaidhlaaW.PrintLast Go.Proofs.YtinnjgogaidhlaaW.PrintMore
attribute [local go_sem high] str_gtr str_leq str_geq
attribute [local go_sem] max2_int min2_int max_two min_two max_three min_three max_four min_four   -- for this text's walks alone
set_option linter.unusedVariables false
set_option linter.unusedSimpArgs false

end Go.Proofs.Ytinnjgogaidhlaa.PFnExactMergeRoutes
