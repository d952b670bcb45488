/- The next slot: plain. -/
import Derived.Test.YtfabgdignlfihaaK4
set_option linter.unusedVariables false
set_option linter.unusedSimpArgs false
namespace Go.Proofs.Ytfabgdignlfihaa
open Go Av
set_option maxRecDepth 20000
/-- The first of N numbers where f holds. -/
def firstB (f : Nat → Bool) (N : Nat) : Option Nat := (List.range N).find? f
theorem firstB_some {f : Nat → Bool} {N i : Nat} (hi : i < N) (h : f i = true) (h0 : ∀ j, j < i → f j = false) : firstB f N = some i := by
  unfold firstB
  rw [List.find?_eq_some_iff_getElem]
  exact ⟨h, i, by simpa using hi, by simp, fun j hj => by simp [h0 j hj]⟩
theorem firstB_none {f : Nat → Bool} {N : Nat} (h0 : ∀ j, j < N → f j = false) : firstB f N = none := by
  unfold firstB
  rw [List.find?_eq_none]
  intro x hx
  rw [h0 x (List.mem_range.1 hx)]
  simp
/-- The next slot in which the node of a table is due. -/
def nextR (node len : Int) (C : List Ce) (s t : Int) : Int × Bool := if chkT node len C ≠ 0 ∨ t < 1 ∨ 32 < t ∨ s < 0 then (0, false) else match firstB (fun i => dueB node len C (s + i) t) (len * t).toNat with
  | some i => (s + i, true)
  | none => (0, false)
theorem due_per {node len : Int} {C : List Ce} {s t : Int} (hl : 1 ≤ len) (ht : 1 ≤ t) (hs : 0 ≤ s) : dueB node len C (s + len * t) t = dueB node len C s t := by
  have e1 : (s + len * t) % len = s % len := Int.add_mul_emod_self_left s len t
  have e2 : (s + len * t) / len = s / len + t := Int.add_mul_ediv_left s t (by omega)
  have e3 : (s / len + t) % t = s / len % t := Int.add_emod_right _ _
  have hp : 0 ≤ len * t := Int.mul_nonneg (by omega) (by omega)
  have ea : atR node len C (s + len * t) = atR node len C s := by
    unfold atR
    rw [e1]
    have : (chkT node len C ≠ 0 ∨ s + len * t < 0) ↔ (chkT node len C ≠ 0 ∨ s < 0) := by
      constructor
      · rintro (h | h)
        · exact .inl h
        · omega
      · rintro (h | h)
        · exact .inl h
        · omega
    simp only [this]
  have eb : turnR node len C (s + len * t) t = turnR node len C s t := by
    unfold turnR
    rw [e1, e2, e3]
    have : (chkT node len C ≠ 0 ∨ t < 1 ∨ 32 < t ∨ s + len * t < 0) ↔ (chkT node len C ≠ 0 ∨ t < 1 ∨ 32 < t ∨ s < 0) := by
      constructor
      · rintro (h | h | h | h)
        · exact .inl h
        · exact .inr (.inl h)
        · exact .inr (.inr (.inl h))
        · omega
      · rintro (h | h | h | h)
        · exact .inl h
        · exact .inr (.inl h)
        · exact .inr (.inr (.inl h))
        · omega
    simp only [this]
  unfold dueB
  rw [ea, eb]
end Go.Proofs.Ytfabgdignlfihaa
