/- Go functions as plain Lean functions, and for each a proof that its call comes to what the function says; under the conditions that each theorem names. Written by a program of this session. -/
import Derived.Test.YtkjkokljgbpbbaaPFnRequestOfx0
import Derived.Test.YtkjkokljgbpbbaaPFnRequestOfx1
import Derived.Test.YtkjkokljgbpbbaaPFnRequestOfx2
import Derived.Test.YtkjkokljgbpbbaaPFnRequestOfx3
import Derived.Test.YtkjkokljgbpbbaaPFnRequestOfx4
import Derived.Test.YtkjkokljgbpbbaaPFnRequestOfx5
import Derived.Test.YtkjkokljgbpbbaaPFnRequestOfx6
import Derived.Test.YtkjkokljgbpbbaaPFnRequestOfx7
import Derived.Test.YtkjkokljgbpbbaaPFnRequestOfx8
import Derived.Test.YtkjkokljgbpbbaaPFnRequestOfx9
import Derived.Test.YtkjkokljgbpbbaaPFnRequestOfx10
import Derived.Test.YtkjkokljgbpbbaaPFnRequestOfx11
import Derived.Test.YtkjkokljgbpbbaaPFnRequestOfx12
import Derived.Test.YtkjkokljgbpbbaaPFnRequestOfx13
import Derived.Test.YtkjkokljgbpbbaaPFnRequestOfx14
import Derived.Test.YtkjkokljgbpbbaaPFnRequestOfx15
import Derived.Test.YtkjkokljgbpbbaaPFnRequestOfx16
import Derived.Test.YtkjkokljgbpbbaaPFnRequestOfx17
namespace Go.Proofs.Ytkjkokljgbpbbaa.PFnRequestOf
open Go.RowKit Go.Proofs.YtkjkokljgbpbbaaW.PrintWords Go.Proofs.YtkjkokljgbpbbaaW.PrintLast Go.Proofs.YtkjkokljgbpbbaaW.PrintMore
attribute [local go_sem high] str_gtr str_leq str_geq
attribute [local go_sem] max2_int min2_int max_two min_two max_three min_three max_four min_four   -- for this text's walks alone
set_option linter.unusedVariables false
set_option linter.unusedSimpArgs false

end Go.Proofs.Ytkjkokljgbpbbaa.PFnRequestOf
