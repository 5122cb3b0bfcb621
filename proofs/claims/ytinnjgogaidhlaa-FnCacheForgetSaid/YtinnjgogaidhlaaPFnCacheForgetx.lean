/- Go functions as plain Lean functions, and for each a proof that its call comes to what the function says; under the conditions that each theorem names. Written by a program of this session. -/
import Derived.Test.YtinnjgogaidhlaaPFnCacheForgetx0
import Derived.Test.YtinnjgogaidhlaaPFnCacheForgetx1
import Derived.Test.YtinnjgogaidhlaaPFnCacheForgetx2
import Derived.Test.YtinnjgogaidhlaaPFnCacheForgetx3
import Derived.Test.YtinnjgogaidhlaaPFnCacheForgetx4
import Derived.Test.YtinnjgogaidhlaaPFnCacheForgetx5
import Derived.Test.YtinnjgogaidhlaaPFnCacheForgetx6
import Derived.Test.YtinnjgogaidhlaaPFnCacheForgetx7
import Derived.Test.YtinnjgogaidhlaaPFnCacheForgetx8
import Derived.Test.YtinnjgogaidhlaaPFnCacheForgetx9
import Derived.Test.YtinnjgogaidhlaaPFnCacheForgetx10
import Derived.Test.YtinnjgogaidhlaaPFnCacheForgetx11
import Derived.Test.YtinnjgogaidhlaaPFnCacheForgetx12
namespace Go.Proofs.Ytinnjgogaidhlaa.PFnCacheForget
open Go.RowKit Go.Proofs.YtinnjgogaidhlaaW.PrintWords Go.Proofs.YtinnjgogaidhlaaW.PrintLast Go.Proofs.YtinnjgogaidhlaaW.PrintMore
attribute [local go_sem high] str_gtr str_leq str_geq
attribute [local go_sem] max2_int min2_int max_two min_two max_three min_three max_four min_four   -- for this text's walks alone
set_option linter.unusedVariables false
set_option linter.unusedSimpArgs false

end Go.Proofs.Ytinnjgogaidhlaa.PFnCacheForget
