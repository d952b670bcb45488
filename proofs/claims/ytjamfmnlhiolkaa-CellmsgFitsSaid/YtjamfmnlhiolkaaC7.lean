/- Bits: texts are written. -/
import Derived.Test.YtjamfmnlhiolkaaC6
set_option linter.unusedVariables false
set_option linter.unusedSimpArgs false
namespace Go.Proofs.Ytjamfmnlhiolkaa
open Go Av
set_option maxRecDepth 20000
def strBits (s : ByteArray) : Nat → List Int
  | 0 => []
  | i + 1 => strBits s i ++ bitsOf 8 (byteAt s i).toNat
theorem strBits_len (s i) : (strBits s i).length = 8 * i := by induction i with
  | zero => rfl
  | succ i ih => rw [strBits, List.length_append, ih, bitsOf_len]; omega
def txtW (bs : List Int) (e m : Int) (s : ByteArray) : List Int × Int :=
  if e ≠ 0 then (bs, e) else if ¬ (1 ≤ m ∧ m ≤ 4095) then (bs, 1) else if m < s.size ∨ bs.length + wdth m + 8 * s.size > 524288 then (bs, 8) else (bs ++ bitsOf (wdth m).toNat s.size ++ strBits s s.size, 0)
theorem wdth_bd (m : Int) (h : 0 ≤ m ∧ m ≤ 9223372036854775807) : 1 ≤ wdth m ∧ wdth m ≤ 63 := by
  have := bl_bd m.toNat (by omega)
  unfold wdth
  rw [if_neg (by omega)]
  omega
structure Tg where
  i : Nat
  bs : List Int
  Z : List Int
  n : Nat
  k : Int
end Go.Proofs.Ytjamfmnlhiolkaa
