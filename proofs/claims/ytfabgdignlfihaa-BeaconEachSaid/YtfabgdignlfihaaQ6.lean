/- The law BeaconEach: plain. -/
import Derived.Test.YtfabgdignlfihaaQ2
set_option linter.unusedVariables false
set_option linter.unusedSimpArgs false
namespace Go.Proofs.Ytfabgdignlfihaa
open Go Av
set_option maxRecDepth 20000
structure Dg where
  d : Nat
  m : Int
  own : Int
  fst : Bool
structure Dh where
  e : Dg
  sl : Int
structure EInv (C : List Ce) (N T s : Int) (y : Dg) : Prop where
  d : (y.d : Int) ≤ 12 * T
  m : y.m = Gs C (s + y.d) - Gs C s
  top : y.m ≤ T
  own : (y.own = 0 ∧ y.fst = true ∧ ∀ j : Nat, j < y.d → dueB N 12 C (s + j) T = false) ∨ (y.own = 1 ∧ y.fst = false ∧ ∃ j : Nat, j < y.d ∧ dueB N 12 C (s + j) T = true)
section
variable {C : List Ce} {N T s : Int} (h : ShT C) (hN : 0 ≤ N ∧ N < 32) (hl : C.length ≤ 512) (hT : 1 ≤ T ∧ T ≤ 32) (hs : 0 ≤ s) (h0 : C ≠ [])
include h h0 in
theorem shN_one : 1 ≤ shN C := by
  rw [shN_len h]
  have : C.length ≠ 0 := fun e => h0 (List.eq_nil_of_length_eq_zero e)
  omega
include h hT h0 in
theorem e_lt {y : Dg} (hy : EInv C N T s y) (hm : y.m < T) : (y.d : Int) < 12 * T := by
  rcases Int.lt_or_le (y.d : Int) (12 * T) with h1 | h1
  · exact h1
  · exfalso
    have e : (y.d : Int) = 12 * T := by have := hy.d; omega
    have := hy.m
    rw [e, Gs_frame] at this
    have h2 := Int.mul_le_mul_of_nonneg_left (shN_one h h0) (show 0 ≤ T by omega)
    omega
include h hT h0 in
theorem e_no {d : Nat} {m own : Int} {fst : Bool} (hy : EInv C N T s ⟨d, m, own, fst⟩) (hm : m < T) (hsh : shH ((s + d) % 12) C = false) (hdue : dueB N 12 C (s + d) T = false) : EInv C N T s ⟨d + 1, m, own, fst⟩ := by
  have hd := e_lt h hT h0 hy hm
  have e := Gs_succ h (s + d)
  rw [hsh, if_neg (by simp)] at e
  have hm' := hy.m
  refine ⟨by dsimp only at *; omega, ?_, hy.top, ?_⟩
  · dsimp only at *
    rw [show s + ((d + 1 : Nat) : Int) = s + d + 1 by omega, e]
    omega
  · rcases hy.own with ⟨h1, h2, h3⟩ | ⟨h1, h2, j, h3, h4⟩
    · refine .inl ⟨h1, h2, fun j hj => ?_⟩
      dsimp only at *
      rcases Nat.lt_or_ge j d with h | h
      · exact h3 j h
      · obtain rfl : j = d := by omega
        exact hdue
    · exact .inr ⟨h1, h2, j, by dsimp only at *; omega, h4⟩
include h hT h0 in
theorem e_other {d : Nat} {m own : Int} {fst : Bool} (hy : EInv C N T s ⟨d, m, own, fst⟩) (hm : m < T) (hsh : shH ((s + d) % 12) C = true) (hdue : dueB N 12 C (s + d) T = false) : EInv C N T s ⟨d + 1, m + 1, own, fst⟩ := by
  have hd := e_lt h hT h0 hy hm
  have e := Gs_succ h (s + d)
  rw [hsh, if_pos rfl] at e
  have hm' := hy.m
  refine ⟨by dsimp only at *; omega, ?_, by dsimp only; omega, ?_⟩
  · dsimp only at *
    rw [show s + ((d + 1 : Nat) : Int) = s + d + 1 by omega, e]
    omega
  · rcases hy.own with ⟨h1, h2, h3⟩ | ⟨h1, h2, j, h3, h4⟩
    · refine .inl ⟨h1, h2, fun j hj => ?_⟩
      dsimp only at *
      rcases Nat.lt_or_ge j d with h | h
      · exact h3 j h
      · obtain rfl : j = d := by omega
        exact hdue
    · exact .inr ⟨h1, h2, j, by dsimp only at *; omega, h4⟩
include h hN hl hT hs h0 in
theorem e_own {d : Nat} {m own : Int} {fst : Bool} (hy : EInv C N T s ⟨d, m, own, fst⟩) (hm : m < T) (hsh : shH ((s + d) % 12) C = true) (hdue : dueB N 12 C (s + d) T = true) : own = 0 ∧ fst = true ∧ (∀ j : Nat, j < d → dueB N 12 C (s + j) T = false) ∧ EInv C N T s ⟨d + 1, m + 1, 1, false⟩ := by
  have hd := e_lt h hT h0 hy hm
  have e := Gs_succ h (s + d)
  rw [hsh, if_pos rfl] at e
  have hm' := hy.m
  dsimp only at hm' hd
  have hE : EInv C N T s ⟨d + 1, m + 1, 1, false⟩ := by
    refine ⟨by dsimp only; omega, ?_, by dsimp only; omega, .inr ⟨rfl, rfl, d, by dsimp only; omega, hdue⟩⟩
    dsimp only
    rw [show s + ((d + 1 : Nat) : Int) = s + d + 1 by omega, e]
    omega
  rcases hy.own with ⟨h1, h2, h3⟩ | ⟨h1, h2, j, h3, h4⟩
  · exact ⟨h1, h2, h3, hE⟩
  · exfalso
    dsimp only at h3
    rw [due_sh h hN hl hT (by omega)] at hdue h4
    simp only [Bool.and_eq_true, decide_eq_true_eq] at hdue h4
    have ej := Gs_succ h (s + j)
    rw [h4.1, if_pos rfl] at ej
    have g1 := Gs_mono h (show s + j + 1 ≤ s + d by omega)
    have g2 := Gs_mono h (show s ≤ s + j by omega)
    have := mod_uniq hT.1 h4.2 hdue.2 (by omega)
    omega
include h hN hl hT hs in
theorem e_end {d : Nat} {m own : Int} {fst : Bool} (hy : EInv C N T s ⟨d, m, own, fst⟩) (hm : ¬ m < T) : own = 1 := by
  have hm' := hy.m
  have ht := hy.top
  dsimp only at hm' ht
  rcases hy.own with ⟨h1, h2, h3⟩ | ⟨h1, _⟩
  · exfalso
    obtain ⟨i, hi, hd⟩ := due_ex h hN hl hT hs (show s ≤ s + d by omega) (show Gs C s + T ≤ Gs C (s + d) by omega)
    dsimp only at h3
    rw [h3 i (by omega)] at hd
    cases hd
  · exact h1
end
end Go.Proofs.Ytfabgdignlfihaa
