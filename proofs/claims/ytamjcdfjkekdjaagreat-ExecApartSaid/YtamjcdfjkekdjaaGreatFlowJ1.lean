import Derived.Test.YtamjcdfjkekdjaaGreatFlowD
import Derived.Test.YtamjcdfjkekdjaaGreatEngE
import Derived.Test.YtamjcdfjkekdjaaGreatFlowG
import Derived.Test.YtamjcdfjkekdjaaGreatFlowI
set_option linter.unusedSimpArgs false
set_option linter.unusedVariables false
set_option linter.constructorNameAsVariable false
set_option autoImplicit false
namespace Go.Eng
open Go Go.RowKit Go.Proofs
def Rn.fill (Q R : Rn) : Rn := { Q with es := R.es, ad := R.ad, da := R.da, ct := R.ct, pa := R.pa, nv := R.nv, nl := R.nl, more := R.more, ctrl := R.ctrl, last := R.last, skip := R.skip }
end Go.Eng
