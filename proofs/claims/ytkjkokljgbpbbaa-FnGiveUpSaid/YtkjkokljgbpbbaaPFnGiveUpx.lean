/- Go functions as plain Lean functions, and for each a proof that its call comes to what the function says; under the conditions that each theorem names. Written by a program of this session. -/
import Derived.Test.YtkjkokljgbpbbaaPFnGiveUpx0
import Derived.Test.YtkjkokljgbpbbaaPFnGiveUpx1
import Derived.Test.YtkjkokljgbpbbaaPFnGiveUpx2
import Derived.Test.YtkjkokljgbpbbaaPFnGiveUpx3
import Derived.Test.YtkjkokljgbpbbaaPFnGiveUpx4
import Derived.Test.YtkjkokljgbpbbaaPFnGiveUpx5
import Derived.Test.YtkjkokljgbpbbaaPFnGiveUpx6
import Derived.Test.YtkjkokljgbpbbaaPFnGiveUpx7
import Derived.Test.YtkjkokljgbpbbaaPFnGiveUpx8
import Derived.Test.YtkjkokljgbpbbaaPFnGiveUpx9
import Derived.Test.YtkjkokljgbpbbaaPFnGiveUpx10
import Derived.Test.YtkjkokljgbpbbaaPFnGiveUpx11
import Derived.Test.YtkjkokljgbpbbaaPFnGiveUpx12
import Derived.Test.YtkjkokljgbpbbaaPFnGiveUpx13
import Derived.Test.YtkjkokljgbpbbaaPFnGiveUpx14
import Derived.Test.YtkjkokljgbpbbaaPFnGiveUpx15
namespace Go.Proofs.Ytkjkokljgbpbbaa.PFnGiveUp
open Go.RowKit Go.Proofs.YtkjkokljgbpbbaaW.PrintWords Go.Proofs.YtkjkokljgbpbbaaW.PrintLast Go.Proofs.YtkjkokljgbpbbaaW.PrintMore
attribute [local go_sem high] str_gtr str_leq str_geq
attribute [local go_sem] max2_int min2_int max_two min_two max_three min_three max_four min_four   -- for this text's walks alone
set_option linter.unusedVariables false
set_option linter.unusedSimpArgs false

end Go.Proofs.Ytkjkokljgbpbbaa.PFnGiveUp
