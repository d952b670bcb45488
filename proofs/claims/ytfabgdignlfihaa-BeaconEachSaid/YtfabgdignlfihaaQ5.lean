/- Tables of shared cells: plain. -/
import Derived.Test.YtfabgdignlfihaaQ4
set_option linter.unusedVariables false
set_option linter.unusedSimpArgs false
namespace Go.Proofs.Ytfabgdignlfihaa
open Go Av
set_option maxRecDepth 20000
theorem flat_u8 (l : List Int) : (l.flatMap fun n => [Value.int .u8 n]) = List.map (Value.int .u8) l := by
  induction l with
  | nil => rfl
  | cons a l ih => rw [List.flatMap_cons, ih]; rfl
structure Ag where
  i : Nat
  n : Nat
  C : List Ce
end Go.Proofs.Ytfabgdignlfihaa
