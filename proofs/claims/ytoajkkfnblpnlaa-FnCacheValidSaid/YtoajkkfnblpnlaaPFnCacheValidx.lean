/- Go functions as plain Lean functions, and for each a proof that its call comes to what the function says; under the conditions that each theorem names. Written by a program of this session. -/
import Derived.Test.YtoajkkfnblpnlaaPFnCacheValidx0
import Derived.Test.YtoajkkfnblpnlaaPFnCacheValidx1
import Derived.Test.YtoajkkfnblpnlaaPFnCacheValidx2
import Derived.Test.YtoajkkfnblpnlaaPFnCacheValidx3
import Derived.Test.YtoajkkfnblpnlaaPFnCacheValidx4
import Derived.Test.YtoajkkfnblpnlaaPFnCacheValidx5
import Derived.Test.YtoajkkfnblpnlaaPFnCacheValidx6
import Derived.Test.YtoajkkfnblpnlaaPFnCacheValidx7
import Derived.Test.YtoajkkfnblpnlaaPFnCacheValidx8
import Derived.Test.YtoajkkfnblpnlaaPFnCacheValidx9
namespace Go.Proofs.Ytoajkkfnblpnlaa.PFnCacheValid
open Go.RowKit Go.Proofs.YtoajkkfnblpnlaaW.PrintWords Go.Proofs.YtoajkkfnblpnlaaW.PrintLast Go.Proofs.YtoajkkfnblpnlaaW.PrintMore
attribute [local go_sem high] str_gtr str_leq str_geq
attribute [local go_sem] max2_int min2_int max_two min_two max_three min_three max_four min_four   -- for this text's walks alone
set_option linter.unusedVariables false
set_option linter.unusedSimpArgs false

end Go.Proofs.Ytoajkkfnblpnlaa.PFnCacheValid
