/- Go functions as plain Lean functions, and for each a proof that its call comes to what the function says; under the conditions that each theorem names. Written by a program of this session. -/
import Derived.Test.YtkjkokljgbpbbaaPFnCallerValidx0
import Derived.Test.YtkjkokljgbpbbaaPFnCallerValidx1
import Derived.Test.YtkjkokljgbpbbaaPFnCallerValidx2
import Derived.Test.YtkjkokljgbpbbaaPFnCallerValidx3
import Derived.Test.YtkjkokljgbpbbaaPFnCallerValidx4
import Derived.Test.YtkjkokljgbpbbaaPFnCallerValidx5
import Derived.Test.YtkjkokljgbpbbaaPFnCallerValidx6
import Derived.Test.YtkjkokljgbpbbaaPFnCallerValidx7
import Derived.Test.YtkjkokljgbpbbaaPFnCallerValidx8
import Derived.Test.YtkjkokljgbpbbaaPFnCallerValidx9
import Derived.Test.YtkjkokljgbpbbaaPFnCallerValidx10
import Derived.Test.YtkjkokljgbpbbaaPFnCallerValidx11
import Derived.Test.YtkjkokljgbpbbaaPFnCallerValidx12
import Derived.Test.YtkjkokljgbpbbaaPFnCallerValidx13
import Derived.Test.YtkjkokljgbpbbaaPFnCallerValidx14
namespace Go.Proofs.Ytkjkokljgbpbbaa.PFnCallerValid
open Go.RowKit Go.Proofs.YtkjkokljgbpbbaaW.PrintWords Go.Proofs.YtkjkokljgbpbbaaW.PrintLast Go.Proofs.YtkjkokljgbpbbaaW.PrintMore
attribute [local go_sem high] str_gtr str_leq str_geq
attribute [local go_sem] max2_int min2_int max_two min_two max_three min_three max_four min_four   -- for this text's walks alone
set_option linter.unusedVariables false
set_option linter.unusedSimpArgs false

end Go.Proofs.Ytkjkokljgbpbbaa.PFnCallerValid
