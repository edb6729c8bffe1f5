import Derived.Test.YtamjcdfjkekdjaaGreatKitMay
set_option linter.unusedSimpArgs false
set_option linter.unusedVariables false
set_option linter.constructorNameAsVariable false
set_option autoImplicit false
namespace Go.Eng
open Go Go.RowKit Go.Proofs
/-- Are two lists of numbers the same? -/
def ints (l : List Int) : List (List PV) := l.map fun n => [C .i64 n]
theorem ints_len {l : List Int} : (ints l).length = l.length := by simp [ints]
theorem ints_getE {l : List Int} {i : Nat} (h : i < (ints l).length) : (ints l)[i] = [C .i64 (l[i]'(by simpa [ints] using h))] := by simp [ints]
theorem wrap_succ {i n : Nat} (h : i < n) (hn : n ≤ maxLen) : IntKind.wrap .i64 ((i : Int) + 1) = (i : Int) + 1 := by
  have : maxLen = 9223372036854775807 := rfl
  exact wrap64s (by omega) (by omega)
end Go.Eng
