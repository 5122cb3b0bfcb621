/- Go functions as plain Lean functions, and for each a proof that its call comes to what the function says; under the conditions that each theorem names. Written by a program of this session. -/
import Derived.Test.YtinnjgogaidhlaaPFnRoutesValidx0
import Derived.Test.YtinnjgogaidhlaaPFnRoutesValidx1
import Derived.Test.YtinnjgogaidhlaaPFnRoutesValidx2
import Derived.Test.YtinnjgogaidhlaaPFnRoutesValidx3
import Derived.Test.YtinnjgogaidhlaaPFnRoutesValidx4
import Derived.Test.YtinnjgogaidhlaaPFnRoutesValidx5
import Derived.Test.YtinnjgogaidhlaaPFnRoutesValidx6
import Derived.Test.YtinnjgogaidhlaaPFnRoutesValidx7
import Derived.Test.YtinnjgogaidhlaaPFnRoutesValidx8
import Derived.Test.YtinnjgogaidhlaaPFnRoutesValidx9
namespace Go.Proofs.Ytinnjgogaidhlaa.PFnRoutesValid
open Go.RowKit Go.Proofs.YtinnjgogaidhlaaW.PrintWords Go.Proofs.YtinnjgogaidhlaaW.PrintLast Go.Proofs.YtinnjgogaidhlaaW.PrintMore
attribute [local go_sem high] str_gtr str_leq str_geq
attribute [local go_sem] max2_int min2_int max_two min_two max_three min_three max_four min_four   -- for this text's walks alone
set_option linter.unusedVariables false
set_option linter.unusedSimpArgs false

end Go.Proofs.Ytinnjgogaidhlaa.PFnRoutesValid
