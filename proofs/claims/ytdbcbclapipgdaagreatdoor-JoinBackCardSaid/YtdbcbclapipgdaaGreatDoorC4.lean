/- Bits: plain functions. -/
import Derived.Test.YtdbcbclapipgdaaGreatDoorVO
import Derived.Test.YtdbcbclapipgdaaGreatDoorJ
import Derived.Test.YtdbcbclapipgdaaGreatDoorC3
set_option linter.unusedVariables false
set_option linter.unusedSimpArgs false
namespace Go.Proofs.YtdbcbclapipgdaaGreatDoor
open Go Av
set_option maxRecDepth 20000
theorem pkN_app (bs xs : List Int) : ∀ k, k ≤ bs.length → pkN (bs ++ xs) k = pkN bs k
  | 0, _ => rfl
  | k + 1, h => by
    rw [pkN, pkN, pkN_app bs xs k (by omega), List.getD_eq_getElem?_getD, List.getD_eq_getElem?_getD, List.getElem?_append_left (by omega)]
theorem pack_snoc (bs : List Int) (b : Int) : pack (bs ++ [b]) = pkS (pack bs) bs.length b := by
  unfold pack
  rw [List.length_append, show [b].length = 1 from rfl, pkN, pkN_app bs [b] _ (Nat.le_refl _), List.getD_eq_getElem?_getD, List.getElem?_append_right (Nat.le_refl _), Nat.sub_self]
  rfl
end Go.Proofs.YtdbcbclapipgdaaGreatDoor
