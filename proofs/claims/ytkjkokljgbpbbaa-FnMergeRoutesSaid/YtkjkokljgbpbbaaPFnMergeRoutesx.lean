/- Go functions as plain Lean functions, and for each a proof that its call comes to what the function says; under the conditions that each theorem names. Written by a program of this session. -/
import Derived.Test.YtkjkokljgbpbbaaPFnMergeRoutesx0
import Derived.Test.YtkjkokljgbpbbaaPFnMergeRoutesx1
import Derived.Test.YtkjkokljgbpbbaaPFnMergeRoutesx2
import Derived.Test.YtkjkokljgbpbbaaPFnMergeRoutesx3
import Derived.Test.YtkjkokljgbpbbaaPFnMergeRoutesx4
import Derived.Test.YtkjkokljgbpbbaaPFnMergeRoutesx5
import Derived.Test.YtkjkokljgbpbbaaPFnMergeRoutesx6
import Derived.Test.YtkjkokljgbpbbaaPFnMergeRoutesx7
import Derived.Test.YtkjkokljgbpbbaaPFnMergeRoutesx8
import Derived.Test.YtkjkokljgbpbbaaPFnMergeRoutesx9
import Derived.Test.YtkjkokljgbpbbaaPFnMergeRoutesx10
import Derived.Test.YtkjkokljgbpbbaaPFnMergeRoutesx11
import Derived.Test.YtkjkokljgbpbbaaPFnMergeRoutesx12
import Derived.Test.YtkjkokljgbpbbaaPFnMergeRoutesx13
import Derived.Test.YtkjkokljgbpbbaaPFnMergeRoutesx14
import Derived.Test.YtkjkokljgbpbbaaPFnMergeRoutesx15
namespace Go.Proofs.Ytkjkokljgbpbbaa.PFnMergeRoutes
open Go.RowKit Go.Proofs.YtkjkokljgbpbbaaW.PrintWords Go.Proofs.YtkjkokljgbpbbaaW.PrintLast Go.Proofs.YtkjkokljgbpbbaaW.PrintMore
attribute [local go_sem high] str_gtr str_leq str_geq
attribute [local go_sem] max2_int min2_int max_two min_two max_three min_three max_four min_four   -- for this text's walks alone
set_option linter.unusedVariables false
set_option linter.unusedSimpArgs false

end Go.Proofs.Ytkjkokljgbpbbaa.PFnMergeRoutes
