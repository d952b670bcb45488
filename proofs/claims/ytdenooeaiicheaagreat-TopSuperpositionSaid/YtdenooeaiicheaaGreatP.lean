/- Bits: plain functions. -/
import Derived.Test.YtdenooeaiicheaaGreatVG
import Derived.Test.YtdenooeaiicheaaGreatJ
set_option linter.unusedVariables false
set_option linter.unusedSimpArgs false
namespace Go.Proofs.YtdenooeaiicheaaGreat
open Go Av
set_option maxRecDepth 20000
theorem bv_and1 (k : IntKind) (hk : k = .u64 ∨ k = .i64) (x : Int) : bitv .and k x 1 = x % 2 := by
  have h : ((BitVec.ofInt 64 x &&& BitVec.ofInt 64 1).toNat : Int) = x % 2 := by
    rw [BitVec.toNat_and, BitVec.toNat_ofInt, BitVec.toNat_ofInt, show ((1 : Int) % (2 ^ 64 : Nat)).toNat = 1 from rfl, Nat.and_one_is_mod]
    omega
  rcases hk with rfl | rfl
  · show IntKind.u64.wrap ((BitVec.ofInt 64 x &&& BitVec.ofInt 64 1).toNat : Int) = _
    rw [h]
    exact wrap_id (by simp [IntKind.min, IntKind.signed]; omega) (by simp [IntKind.max, IntKind.signed, IntKind.bits]; omega)
  · show IntKind.i64.wrap ((BitVec.ofInt 64 x &&& BitVec.ofInt 64 1).toNat : Int) = _
    rw [h]
    exact wrap_id (by simp [IntKind.min, IntKind.signed, IntKind.bits]; omega) (by simp [IntKind.max, IntKind.signed, IntKind.bits]; omega)
/-- The lowest w bits of a number, the highest one first. -/
def bitsOf : Nat → Int → List Int
  | 0, _ => []
  | w + 1, x => x / 2 ^ w % 2 :: bitsOf w x
theorem bitsOf_len (w x) : (bitsOf w x).length = w := by induction w with
  | zero => rfl
  | succ w ih => simp [bitsOf, ih]
def pkS (Z : List Int) (k : Nat) (b : Int) : List Int :=
  let Y := if k % 8 = 0 then Z ++ [0] else Z
  Y.set (k / 8) (bitv .or .u8 (Y.getD (k / 8) 0) (IntKind.u8.wrap (b * 2 ^ (7 - k % 8))))
/-- The bytes of the first k bits. -/
def pkN (bs : List Int) : Nat → List Int
  | 0 => []
  | k + 1 => pkS (pkN bs k) k (bs.getD k 0)
def pack (bs : List Int) : List Int := pkN bs bs.length
theorem pkS_len (Z k b) : (pkS Z k b).length = if k % 8 = 0 then Z.length + 1 else Z.length := by
  unfold pkS
  split <;> simp
theorem pkN_len (bs k) : (pkN bs k).length = (k + 7) / 8 := by induction k with
  | zero => rfl
  | succ k ih =>
    rw [pkN, pkS_len, ih]
    split <;> omega
theorem pkN_app (bs xs : List Int) : ∀ k, k ≤ bs.length → pkN (bs ++ xs) k = pkN bs k
  | 0, _ => rfl
  | k + 1, h => by
    rw [pkN, pkN, pkN_app bs xs k (by omega), List.getD_eq_getElem?_getD, List.getD_eq_getElem?_getD, List.getElem?_append_left (by omega)]
theorem pack_len (bs) : (pack bs).length = (bs.length + 7) / 8 := pkN_len bs bs.length
theorem pack_snoc (bs : List Int) (b : Int) : pack (bs ++ [b]) = pkS (pack bs) bs.length b := by
  unfold pack
  rw [List.length_append, show [b].length = 1 from rfl, pkN, pkN_app bs [b] _ (Nat.le_refl _), List.getD_eq_getElem?_getD, List.getElem?_append_right (Nat.le_refl _), Nat.sub_self]
  rfl
end Go.Proofs.YtdenooeaiicheaaGreat
