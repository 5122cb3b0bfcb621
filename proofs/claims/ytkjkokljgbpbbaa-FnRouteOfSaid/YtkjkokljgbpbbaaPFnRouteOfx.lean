/- Go functions as plain Lean functions, and for each a proof that its call comes to what the function says; under the conditions that each theorem names. Written by a program of this session. -/
import Derived.Test.YtkjkokljgbpbbaaPFnRouteOfx0
import Derived.Test.YtkjkokljgbpbbaaPFnRouteOfx1
import Derived.Test.YtkjkokljgbpbbaaPFnRouteOfx2
import Derived.Test.YtkjkokljgbpbbaaPFnRouteOfx3
import Derived.Test.YtkjkokljgbpbbaaPFnRouteOfx4
import Derived.Test.YtkjkokljgbpbbaaPFnRouteOfx5
import Derived.Test.YtkjkokljgbpbbaaPFnRouteOfx6
import Derived.Test.YtkjkokljgbpbbaaPFnRouteOfx7
import Derived.Test.YtkjkokljgbpbbaaPFnRouteOfx8
import Derived.Test.YtkjkokljgbpbbaaPFnRouteOfx9
import Derived.Test.YtkjkokljgbpbbaaPFnRouteOfx10
import Derived.Test.YtkjkokljgbpbbaaPFnRouteOfx11
namespace Go.Proofs.Ytkjkokljgbpbbaa.PFnRouteOf
open Go.RowKit Go.Proofs.YtkjkokljgbpbbaaW.PrintWords Go.Proofs.YtkjkokljgbpbbaaW.PrintLast Go.Proofs.YtkjkokljgbpbbaaW.PrintMore
attribute [local go_sem high] str_gtr str_leq str_geq
attribute [local go_sem] max2_int min2_int max_two min_two max_three min_three max_four min_four   -- for this text's walks alone
set_option linter.unusedVariables false
set_option linter.unusedSimpArgs false

end Go.Proofs.Ytkjkokljgbpbbaa.PFnRouteOf
