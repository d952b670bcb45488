/- Bits: texts are read. -/
import Derived.Test.YtjamfmnlhiolkaaD5
import Derived.Test.YtjamfmnlhiolkaaC7
import Derived.Test.YtjamfmnlhiolkaaVH
set_option linter.unusedVariables false
set_option linter.unusedSimpArgs false
namespace Go.Proofs.Ytjamfmnlhiolkaa
open Go Av
set_option maxRecDepth 20000
/-- The bytes that stand from a bit on. -/
def rdB (d : ByteArray) (a : Nat) : Nat → List Int
  | 0 => []
  | n + 1 => rdB d a n ++ [rdN d (a + 8 * n) 8]
theorem rdB_len (d a) : ∀ n, (rdB d a n).length = n
  | 0 => rfl
  | n + 1 => by rw [rdB, List.length_append, rdB_len d a n]; rfl
theorem rdB_rng (d a) : ∀ n, ∀ z ∈ rdB d a n, 0 ≤ z ∧ z ≤ 255
  | 0, z, h => by cases h
  | n + 1, z, h => by
    rw [rdB, List.mem_append] at h
    rcases h with h | h
    · exact rdB_rng d a n z h
    · rw [List.mem_singleton] at h
      have := rdN_bd d (a + 8 * n) 8
      omega
/-- What a reader gives for a text; where it is then; its error. -/
def txtR (d : ByteArray) (a : Nat) (e m : Int) : ByteArray × Nat × Int :=
  if (fieldR d a e (decide (1 ≤ m ∧ m ≤ 4095)) (wdth m)).2.2 ≠ 0 then (⟨#[]⟩, (fieldR d a e (decide (1 ≤ m ∧ m ≤ 4095)) (wdth m)).2)
  else if m < (fieldR d a e (decide (1 ≤ m ∧ m ≤ 4095)) (wdth m)).1 then (⟨#[]⟩, (fieldR d a e (decide (1 ≤ m ∧ m ≤ 4095)) (wdth m)).2.1, 2)
  else if (8 * d.size : Int) - (fieldR d a e (decide (1 ≤ m ∧ m ≤ 4095)) (wdth m)).2.1 < 8 * (fieldR d a e (decide (1 ≤ m ∧ m ≤ 4095)) (wdth m)).1 then (⟨#[]⟩, (fieldR d a e (decide (1 ≤ m ∧ m ≤ 4095)) (wdth m)).2.1, 9)
  else (⟨((rdB d (fieldR d a e (decide (1 ≤ m ∧ m ≤ 4095)) (wdth m)).2.1 (fieldR d a e (decide (1 ≤ m ∧ m ≤ 4095)) (wdth m)).1.toNat).map b8).toArray⟩, (fieldR d a e (decide (1 ≤ m ∧ m ≤ 4095)) (wdth m)).2.1 + 8 * (fieldR d a e (decide (1 ≤ m ∧ m ≤ 4095)) (wdth m)).1.toNat, 0)
structure Xg where
  i : Nat
  Z : List Int
end Go.Proofs.Ytjamfmnlhiolkaa
