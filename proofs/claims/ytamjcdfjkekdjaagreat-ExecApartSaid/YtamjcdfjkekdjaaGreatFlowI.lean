import Derived.Test.YtamjcdfjkekdjaaGreatEngE
set_option autoImplicit false
set_option linter.unusedVariables false
set_option linter.unusedSimpArgs false
namespace Go.Eng
open Go Go.RowKit
variable {P : Program}
/-! ## The loops of a function's code, by number -/
def loopsC : Code → List Code
  | .seq a b => loopsC a ++ loopsC b
  | .cond _ a b => loopsC a ++ loopsC b
  | .block _ c => loopsC c
  | .scope c => loopsC c
  | .loop c => c :: loopsC c
  | .rangeFunc _ _ a c => loopsC a ++ loopsC c
  | _ => []
def loopAt (fn : Func) (k : Nat) : Option Code := match fn.body with
  | some c => (loopsC c)[k]?
  | none => none
end Go.Eng
