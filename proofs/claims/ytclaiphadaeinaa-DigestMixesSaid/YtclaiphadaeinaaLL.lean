/- Lists of a known length. -/
import Derived.Test.YtclaiphadaeinaaD14
set_option linter.unusedVariables false
set_option linter.unusedSimpArgs false
namespace Go.Proofs.Ytclaiphadaeinaa
open Go Av
set_option maxRecDepth 100000
theorem list4 {l : List Int} (h : l.length = 4) : ∃ a0 a1 a2 a3, l = [a0, a1, a2, a3] := by
  match l, h with
  | [a0, a1, a2, a3], _ => exact ⟨_, _, _, _, rfl⟩
theorem list2 {l : List Int} (h : l.length = 2) : ∃ a0 a1, l = [a0, a1] := by
  match l, h with
  | [a0, a1], _ => exact ⟨_, _, rfl⟩
end Go.Proofs.Ytclaiphadaeinaa
