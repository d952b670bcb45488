/- Walking in numbers of one's own: loops named by their place. -/
import Derived.Test.YtmmaolnjjjdecaaV22
set_option linter.unusedVariables false
set_option linter.unusedSimpArgs false
namespace Go.Proofs.Ytmmaolnjjjdecaa.Av
def loopsOf : Code → List Code
  | .seq a b => loopsOf a ++ loopsOf b
  | .cond _ a b => loopsOf a ++ loopsOf b
  | .block _ c => loopsOf c
  | .loop c => c :: loopsOf c
  | _ => []
/-- The code of a function's loop, the outer one first. -/
def loopAt (f : Func) (k : Nat) : Code := match f.body with
  | some c => (loopsOf c).getD k .skip
  | none => .skip
end Go.Proofs.Ytmmaolnjjjdecaa.Av
