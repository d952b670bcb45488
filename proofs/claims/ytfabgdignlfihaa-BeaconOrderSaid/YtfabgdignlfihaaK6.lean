/- The next slot, of the reference. -/
import Derived.Test.YtfabgdignlfihaaK5
set_option linter.unusedVariables false
set_option linter.unusedSimpArgs false
namespace Go.Proofs.Ytfabgdignlfihaa
open Go Av
set_option maxRecDepth 20000
/-- The first of N numbers where f holds. -/
def firstB (f : Nat → Bool) (N : Nat) : Option Nat := (List.range N).find? f
theorem firstB_some {f : Nat → Bool} {N i : Nat} (hi : i < N) (h : f i = true) (h0 : ∀ j, j < i → f j = false) : firstB f N = some i := by
  unfold firstB
  rw [List.find?_eq_some_iff_getElem]
  exact ⟨h, i, by simpa using hi, by simp, fun j hj => by simp [h0 j hj]⟩
theorem firstB_none {f : Nat → Bool} {N : Nat} (h0 : ∀ j, j < N → f j = false) : firstB f N = none := by
  unfold firstB
  rw [List.find?_eq_none]
  intro x hx
  rw [h0 x (List.mem_range.1 hx)]
  simp
/-- The next slot in which the node of a table is due. -/
def nextR (node len : Int) (C : List Ce) (s t : Int) : Int × Bool := if chkT node len C ≠ 0 ∨ t < 1 ∨ 32 < t ∨ s < 0 then (0, false) else match firstB (fun i => dueB node len C (s + i) t) (len * t).toNat with
  | some i => (s + i, true)
  | none => (0, false)
theorem due_per {node len : Int} {C : List Ce} {s t : Int} (hl : 1 ≤ len) (ht : 1 ≤ t) (hs : 0 ≤ s) : dueB node len C (s + len * t) t = dueB node len C s t := by
  have e1 : (s + len * t) % len = s % len := Int.add_mul_emod_self_left s len t
  have e2 : (s + len * t) / len = s / len + t := Int.add_mul_ediv_left s t (by omega)
  have e3 : (s / len + t) % t = s / len % t := Int.add_emod_right _ _
  have hp : 0 ≤ len * t := Int.mul_nonneg (by omega) (by omega)
  have ea : atR node len C (s + len * t) = atR node len C s := by
    unfold atR
    rw [e1]
    have : (chkT node len C ≠ 0 ∨ s + len * t < 0) ↔ (chkT node len C ≠ 0 ∨ s < 0) := by
      constructor
      · rintro (h | h)
        · exact .inl h
        · omega
      · rintro (h | h)
        · exact .inl h
        · omega
    simp only [this]
  have eb : turnR node len C (s + len * t) t = turnR node len C s t := by
    unfold turnR
    rw [e1, e2, e3]
    have : (chkT node len C ≠ 0 ∨ t < 1 ∨ 32 < t ∨ s + len * t < 0) ↔ (chkT node len C ≠ 0 ∨ t < 1 ∨ 32 < t ∨ s < 0) := by
      constructor
      · rintro (h | h | h | h)
        · exact .inl h
        · exact .inr (.inl h)
        · exact .inr (.inr (.inl h))
        · omega
      · rintro (h | h | h | h)
        · exact .inl h
        · exact .inr (.inl h)
        · exact .inr (.inr (.inl h))
        · omega
    simp only [this]
  unfold dueB
  rw [ea, eb]
set_option maxHeartbeats 4000000 in
theorem ac_rnext (node len : Int) (C : List Ce) (n : Nat) (hn : C.length = n) (hb : n ≤ 1000000) (s t : Int) (hs : s ≤ 4611686018427387904) (p : Int) (z : Bool) (hx : nextR node len C s t = (p, z)) : ACalls Try.prog 21 [.agg #[.int .i64 node, .int .i64 len, .slice (some ⟨0, 0, none⟩) n n], .int .i64 s, .int .i64 t] [some ⟨C.flatMap tcC, false, 6⟩] (.tuple #[.int .i64 p, .bool z]) [none] := by
  unfold nextR at hx
  obtain ⟨y, hy⟩ : ∃ y, chkT node len C = y := ⟨_, rfl⟩
  have HC := ac_rtcheck node len C n hn (by omega) y hy
  rw [hy] at hx
  by_cases h1 : y ≠ 0 ∨ t < 1 ∨ 32 < t ∨ s < 0
  · rw [if_pos h1] at hx
    obtain ⟨rfl, rfl⟩ := Prod.mk.inj hx.symm
    refine acalls_law Try.func21 rfl rfl rfl ?_
    repeat' first
      | refine st ?_
      | refine stRW [0] HC ?_
      | refine sdRW [0] HC ?_
      | refine stm ?_
      | refine run_want rfl rfl ?_
      | refine run_unwant rfl rfl ?_
      | refine run_undef rfl rfl ?_
      | refine run_guard1t rfl rfl (by omega) ?_
      | refine run_guard1f rfl rfl (by omega) ?_
      | refine run_guard0t rfl rfl (by omega) ?_
      | refine run_guard0f rfl rfl (by omega) ?_
      | refine run_guard1 rfl rfl (fun h1 => ?_) (fun h1 => ?_)
      | refine run_guard0 rfl rfl (fun h1 => ?_) (fun h1 => ?_)
      | refine run_guard rfl rfl (fun h1 => ?_) (fun h1 => ?_)
      | refine run_nil ?_
      | refine aw_seq ?_
      | refine aw_region (by kernel_rfl) (Nat.le_of_ble_eq_true rfl) ?_
      | refine aw_block ?_
      | refine aw_cond_t rfl ?_
      | refine aw_cond_f rfl ?_
      | refine aw_cond_tp rfl (by omega) ?_
      | refine aw_cond_fp rfl (by omega) ?_
      | refine aw_cond1 rfl (fun h1 => ?_) (fun h1 => ?_)
      | refine aw_cond rfl (fun h1 => ?_) (fun h1 => ?_)
      | refine aw_skip ?_
      | refine aw_exit ?_
      | refine aw_ret ?_
      | refine pp_ret ?_
      | refine pp_normal ?_
    all_goals first
      | rfl
      | (exfalso; omega)
      | (exfalso; simp only [Bool.not_eq_true', Bool.not_eq_false', decide_eq_true_eq, decide_eq_false_iff_not, Bool.not_false, Bool.not_true] at *; omega)
      | (exfalso; simp_all; first | done | omega)
  · rw [if_neg h1] at hx
    obtain rfl : y = 0 := Decidable.byContradiction fun h => h1 (.inl h)
    have ht : 1 ≤ t ∧ t ≤ 32 ∧ 0 ≤ s := by omega
    clear h1
    obtain ⟨q1, q2, q3, q4⟩ := chkT_0 hy
    have hN0 : 1 ≤ len * t ∧ len ≤ len * t ∧ len * t ≤ 16384 := by
      have h1 := Int.mul_le_mul q2.2 ht.2.1 (by omega) (by decide)
      have h2 := Int.mul_le_mul (Int.le_refl len) ht.1 (by decide) (by omega)
      omega
    obtain ⟨N, hN⟩ : ∃ N : Nat, len * t = N := ⟨(len * t).toNat, by omega⟩
    rw [show (len * t).toNat = N by omega] at hx
    have hper : ∀ j : Nat, dueB node len C (s + (j + N : Nat)) t = dueB node len C (s + j) t := fun j => by
      rw [← due_per (node := node) (C := C) (s := s + j) q2.1 ht.1 (by omega), hN]
      congr 1
      omega
    obtain ⟨w, hw⟩ : ∃ w : Nat, (t + 1) * len = w := ⟨((t + 1) * len).toNat, by have : 0 ≤ (t + 1) * len := Int.mul_nonneg (by omega) (by omega); omega⟩
    have hw2 : w = N + len := by rw [← hw, ← hN, Int.add_mul, Int.one_mul, Int.mul_comm t len]
    refine acalls_law Try.func21 rfl rfl rfl ?_
    repeat' first
      | refine st ?_
      | refine stRW [0] HC ?_
      | refine sdRW [0] HC ?_
      | refine stm ?_
      | refine run_want rfl rfl ?_
      | refine run_unwant rfl rfl ?_
      | refine run_undef rfl rfl ?_
      | refine run_guard1t rfl rfl (by omega) ?_
      | refine run_guard1f rfl rfl (by omega) ?_
      | refine run_guard0t rfl rfl (by omega) ?_
      | refine run_guard0f rfl rfl (by omega) ?_
      | refine run_guard1 rfl rfl (fun h1 => ?_) (fun h1 => ?_)
      | refine run_guard0 rfl rfl (fun h1 => ?_) (fun h1 => ?_)
      | refine run_guard rfl rfl (fun h1 => ?_) (fun h1 => ?_)
      | refine run_nil ?_
      | refine aw_seq ?_
      | refine aw_region (by kernel_rfl) (Nat.le_of_ble_eq_true rfl) ?_
      | refine aw_block ?_
      | refine aw_cond_t rfl ?_
      | refine aw_cond_f rfl ?_
      | refine aw_cond_tp rfl (by omega) ?_
      | refine aw_cond_fp rfl (by omega) ?_
      | refine aw_cond1 rfl (fun h1 => ?_) (fun h1 => ?_)
      | refine aw_cond rfl (fun h1 => ?_) (fun h1 => ?_)
      | refine aw_skip ?_
      | refine aw_exit ?_
      | refine aw_ret ?_
      | refine pp_ret ?_
      | refine pp_normal ?_
    clear HC
    refine aw_loopg
      (S := fun y : Og => [(1, .int .i64 s), (2, .int .i64 t), (3, .pointer (some ⟨1, 0, none⟩)), (8, .int .i64 y.i)])
      (B := fun _ : Og => [some ⟨C.flatMap tcC, false, 6⟩, some ⟨[.int .i64 node, .int .i64 len, .slice (some ⟨0, 0, none⟩) n n], true, 1⟩])
      (R := fun y : Og => y.i ≤ w ∧ ∀ j : Nat, j < y.i → dueB node len C (s + j) t = false)
      (μ := fun y : Og => w - y.i) ⟨0⟩ (fitsD [0, 1]) ⟨Nat.zero_le _, fun j hj => absurd hj (Nat.not_lt_zero _)⟩ ?_
    rintro ⟨i⟩ ⟨g1, g2⟩
    dsimp only at *
    by_cases hi : i < w
    · obtain ⟨b, hd⟩ : ∃ b, dueB node len C (s + i) t = b := ⟨_, rfl⟩
      have HD := ac_rdue node len C n hn hb (s + i) t (by omega) b hd
      cases b
      · have hst : ∀ j : Nat, j < i + 1 → dueB node len C (s + j) t = false := fun j hj => by
          rcases Nat.lt_or_ge j i with h | h
          · exact g2 j h
          · obtain rfl : j = i := by omega
            exact hd
        repeat' first
          | refine st (v := .int .i64 w) (h := by (rw [← hw]; apply ok_mul64; rfl; rfl; (rw [hw]; omega))) ?_
          | refine sd (v := .int .i64 w) (h := by (rw [← hw]; apply ok_mul64; rfl; rfl; (rw [hw]; omega))) ?_
          | refine st ?_
          | refine stRW [0] HD ?_
          | refine sdRW [0] HD ?_
          | refine stm ?_
          | refine run_want rfl rfl ?_
          | refine run_unwant rfl rfl ?_
          | refine run_undef rfl rfl ?_
          | refine run_guard1t rfl rfl (by omega) ?_
          | refine run_guard1f rfl rfl (by omega) ?_
          | refine run_guard0t rfl rfl (by omega) ?_
          | refine run_guard0f rfl rfl (by omega) ?_
          | refine run_guard1 rfl rfl (fun h1 => ?_) (fun h1 => ?_)
          | refine run_guard0 rfl rfl (fun h1 => ?_) (fun h1 => ?_)
          | refine run_guard rfl rfl (fun h1 => ?_) (fun h1 => ?_)
          | refine run_nil ?_
          | refine aw_seq ?_
          | refine aw_region (by kernel_rfl) (Nat.le_of_ble_eq_true rfl) ?_
          | refine aw_block ?_
          | refine aw_cond_t rfl ?_
          | refine aw_cond_f rfl ?_
          | refine aw_cond_tp rfl (by omega) ?_
          | refine aw_cond_fp rfl (by omega) ?_
          | refine aw_cond1 rfl (fun h1 => ?_) (fun h1 => ?_)
          | refine aw_cond rfl (fun h1 => ?_) (fun h1 => ?_)
          | refine aw_skip ?_
          | refine aw_exit ?_
          | refine aw_ret ?_
          | refine pp_ret ?_
          | refine pp_normal ?_
        all_goals first | exact Exists.intro ⟨i + 1⟩ ⟨fitsD [0, 1], ⟨hi, hst⟩, by dsimp only; omega⟩ | (exfalso; omega)
      · have hiN : i < N := by
          rcases Nat.lt_or_ge i N with h | h
          · exact h
          · have h3 := hper (i - N)
            rw [show i - N + N = i by omega, hd, g2 (i - N) (by omega)] at h3
            cases h3
        rw [firstB_some hiN hd fun j hj => g2 j hj] at hx
        obtain ⟨rfl, rfl⟩ := Prod.mk.inj hx.symm
        repeat' first
          | refine st (v := .int .i64 w) (h := by (rw [← hw]; apply ok_mul64; rfl; rfl; (rw [hw]; omega))) ?_
          | refine sd (v := .int .i64 w) (h := by (rw [← hw]; apply ok_mul64; rfl; rfl; (rw [hw]; omega))) ?_
          | refine st ?_
          | refine stRW [0] HD ?_
          | refine sdRW [0] HD ?_
          | refine stm ?_
          | refine run_want rfl rfl ?_
          | refine run_unwant rfl rfl ?_
          | refine run_undef rfl rfl ?_
          | refine run_guard1t rfl rfl (by omega) ?_
          | refine run_guard1f rfl rfl (by omega) ?_
          | refine run_guard0t rfl rfl (by omega) ?_
          | refine run_guard0f rfl rfl (by omega) ?_
          | refine run_guard1 rfl rfl (fun h1 => ?_) (fun h1 => ?_)
          | refine run_guard0 rfl rfl (fun h1 => ?_) (fun h1 => ?_)
          | refine run_guard rfl rfl (fun h1 => ?_) (fun h1 => ?_)
          | refine run_nil ?_
          | refine aw_seq ?_
          | refine aw_region (by kernel_rfl) (Nat.le_of_ble_eq_true rfl) ?_
          | refine aw_block ?_
          | refine aw_cond_t rfl ?_
          | refine aw_cond_f rfl ?_
          | refine aw_cond_tp rfl (by omega) ?_
          | refine aw_cond_fp rfl (by omega) ?_
          | refine aw_cond1 rfl (fun h1 => ?_) (fun h1 => ?_)
          | refine aw_cond rfl (fun h1 => ?_) (fun h1 => ?_)
          | refine aw_skip ?_
          | refine aw_exit ?_
          | refine aw_ret ?_
          | refine pp_ret ?_
          | refine pp_normal ?_
        all_goals first
          | rfl
          | (exfalso; omega)
          | (exfalso; simp only [Bool.not_eq_true', Bool.not_eq_false', decide_eq_true_eq, decide_eq_false_iff_not, Bool.not_false, Bool.not_true] at *; omega)
          | (exfalso; simp_all; first | done | omega)
    · obtain rfl : w = i := by omega
      rw [firstB_none fun j hj => g2 j (by omega)] at hx
      obtain ⟨rfl, rfl⟩ := Prod.mk.inj hx.symm
      repeat' first
        | refine st (v := .int .i64 w) (h := by (rw [← hw]; apply ok_mul64; rfl; rfl; (rw [hw]; omega))) ?_
        | refine sd (v := .int .i64 w) (h := by (rw [← hw]; apply ok_mul64; rfl; rfl; (rw [hw]; omega))) ?_
        | refine st ?_
        | refine stRW [0] HD ?_
        | refine sdRW [0] HD ?_
        | refine stm ?_
        | refine run_want rfl rfl ?_
        | refine run_unwant rfl rfl ?_
        | refine run_undef rfl rfl ?_
        | refine run_guard1t rfl rfl (by omega) ?_
        | refine run_guard1f rfl rfl (by omega) ?_
        | refine run_guard0t rfl rfl (by omega) ?_
        | refine run_guard0f rfl rfl (by omega) ?_
        | refine run_guard1 rfl rfl (fun h1 => ?_) (fun h1 => ?_)
        | refine run_guard0 rfl rfl (fun h1 => ?_) (fun h1 => ?_)
        | refine run_guard rfl rfl (fun h1 => ?_) (fun h1 => ?_)
        | refine run_nil ?_
        | refine aw_seq ?_
        | refine aw_region (by kernel_rfl) (Nat.le_of_ble_eq_true rfl) ?_
        | refine aw_block ?_
        | refine aw_cond_t rfl ?_
        | refine aw_cond_f rfl ?_
        | refine aw_cond_tp rfl (by omega) ?_
        | refine aw_cond_fp rfl (by omega) ?_
        | refine aw_cond1 rfl (fun h1 => ?_) (fun h1 => ?_)
        | refine aw_cond rfl (fun h1 => ?_) (fun h1 => ?_)
        | refine aw_skip ?_
        | refine aw_exit ?_
        | refine aw_ret ?_
        | refine pp_ret ?_
        | refine pp_normal ?_
      all_goals first
        | rfl
        | (exfalso; omega)
        | (exfalso; simp only [Bool.not_eq_true', Bool.not_eq_false', decide_eq_true_eq, decide_eq_false_iff_not, Bool.not_false, Bool.not_true] at *; omega)
        | (exfalso; simp_all; first | done | omega)
end Go.Proofs.Ytfabgdignlfihaa
