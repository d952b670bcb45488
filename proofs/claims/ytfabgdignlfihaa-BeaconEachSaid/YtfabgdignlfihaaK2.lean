/- Turns. -/
import Derived.Test.YtfabgdignlfihaaK1
set_option linter.unusedVariables false
set_option linter.unusedSimpArgs false
namespace Go.Proofs.Ytfabgdignlfihaa
open Go Av
set_option maxRecDepth 20000
set_option maxHeartbeats 4000000 in
theorem ac_turn (node len : Int) (C : List Ce) (n : Nat) (hn : C.length = n) (hb : n ≤ 1000000) (s t : Int) (hs : s ≤ 9223372036854775807) (p : Int) (z : Bool) (hx : turnR node len C s t = (p, z)) : ACalls Try.prog 18 [.agg #[.int .i64 node, .int .i64 len, .slice (some ⟨0, 0, none⟩) n n], .int .i64 s, .int .i64 t] [some ⟨C.flatMap tcC, false, 6⟩] (.tuple #[.int .i64 p, .bool z]) [none] := by
  unfold turnR at hx
  obtain ⟨y, hy⟩ : ∃ y, chkT node len C = y := ⟨_, rfl⟩
  have HR := ac_right node len C n hn hb t _ rfl
  rw [hy] at HR
  rw [hy] at hx
  by_cases h1 : y ≠ 0 ∨ t < 1 ∨ 32 < t ∨ s < 0
  · rw [if_pos h1] at hx
    obtain ⟨rfl, rfl⟩ := Prod.mk.inj hx.symm
    refine acalls_law Try.func18 rfl rfl rfl ?_
    repeat' first
      | refine st (h := ok_not_dec2 rfl) ?_
      | refine st ?_
      | refine stRW [0] HR ?_
      | refine sdRW [0] HR ?_
      | refine stm ?_
      | refine run_want rfl rfl ?_
      | refine run_unwant rfl rfl ?_
      | refine run_undef rfl rfl ?_
      | refine run_guard1t rfl rfl (by omega) ?_
      | refine run_guard1f rfl rfl (by omega) ?_
      | refine run_guard0t rfl rfl (by omega) ?_
      | refine run_guard0f rfl rfl (by omega) ?_
      | refine run_guard1 rfl rfl (fun h1 => ?_) (fun h1 => ?_)
      | refine run_guard0 rfl rfl (fun h1 => ?_) (fun h1 => ?_)
      | refine run_guard rfl rfl (fun h1 => ?_) (fun h1 => ?_)
      | refine run_nil ?_
      | refine aw_seq ?_
      | refine aw_region (by kernel_rfl) (Nat.le_of_ble_eq_true rfl) ?_
      | refine aw_block ?_
      | refine aw_cond_t rfl ?_
      | refine aw_cond_f rfl ?_
      | refine aw_cond_tp rfl (by omega) ?_
      | refine aw_cond_fp rfl (by omega) ?_
      | refine aw_cond1 rfl (fun h1 => ?_) (fun h1 => ?_)
      | refine aw_cond rfl (fun h1 => ?_) (fun h1 => ?_)
      | refine aw_skip ?_
      | refine aw_exit ?_
      | refine aw_ret ?_
      | refine pp_ret ?_
      | refine pp_normal ?_
    all_goals first
      | rfl
      | (exfalso; omega)
      | (exfalso; simp only [Bool.not_eq_true', Bool.not_eq_false', decide_eq_true_eq, decide_eq_false_iff_not, Bool.not_false, Bool.not_true] at *; omega)
      | (exfalso; simp_all; first | done | omega)
  · rw [if_neg h1] at hx
    obtain rfl : y = 0 := Decidable.byContradiction fun h => h1 (.inl h)
    have ht : 1 ≤ t ∧ t ≤ 32 ∧ 0 ≤ s := by omega
    clear h1
    obtain ⟨q1, q2, q3, q4⟩ := chkT_0 hy
    have hmod : 0 ≤ s % len ∧ s % len < len := ⟨Int.emod_nonneg _ (by omega), Int.emod_lt_of_pos _ (by omega)⟩
    obtain ⟨q, hq⟩ : ∃ q, s % len = q := ⟨_, rfl⟩
    obtain ⟨v, hv⟩ : ∃ v, s / len = v := ⟨_, rfl⟩
    have hv0 : 0 ≤ v := by rw [← hv]; exact Int.ediv_nonneg (by omega) (by omega)
    obtain ⟨kk, hk⟩ : ∃ kk, v % t = kk := ⟨_, rfl⟩
    have hk0 : 0 ≤ kk ∧ kk < 32 := by
      have := Int.emod_lt_of_pos v (show 0 < t by omega)
      have := Int.emod_nonneg v (show t ≠ 0 by omega)
      omega
    obtain ⟨a, ha⟩ : ∃ a, shN C = a := ⟨_, rfl⟩
    have ha0 : 0 ≤ a ∧ a ≤ 512 := by have := shN_bd C; omega
    obtain ⟨w, hw⟩ : ∃ w, kk * a = w := ⟨_, rfl⟩
    have hw0 : 0 ≤ w ∧ w ≤ 16384 := by rw [← hw]; exact mul_bd hk0 ha0
    rw [hq, hv, hk, ha, hw] at hx
    rw [hq] at hmod
    obtain ⟨e, d, hbf⟩ : ∃ e d, bef C q = (e, d) := ⟨_, _, rfl⟩
    have he0 : 0 ≤ e ∧ e ≤ 512 := by have := bef_bd C q; rw [hbf] at this; dsimp only at this; omega
    rw [hbf] at hx
    have HS := ac_shared node len C n hn hb a ha
    have HB := ac_before node len C n hn hb q e d hbf
    rw [decide_eq_true (show (0 : Int) = 0 ∧ 1 ≤ t ∧ t ≤ 32 by omega)] at HR
    cases d
    · rw [if_neg (by simp)] at hx
      obtain ⟨rfl, rfl⟩ := Prod.mk.inj hx.symm
      refine acalls_law Try.func18 rfl rfl rfl ?_
      repeat' first
        | refine st (h := ok_not_dec2 rfl) ?_
        | refine st (v := .int .i64 q) (h := by (rw [← hq]; apply ok_rem_pos; rfl; rfl; omega)) ?_
        | refine sd (v := .int .i64 q) (h := by (rw [← hq]; apply ok_rem_pos; rfl; rfl; omega)) ?_
        | refine st (v := .int .i64 v) (h := by (rw [← hv]; apply ok_quo64; rfl; rfl; omega)) ?_
        | refine sd (v := .int .i64 v) (h := by (rw [← hv]; apply ok_quo64; rfl; rfl; omega)) ?_
        | refine st (v := .int .i64 kk) (h := by (rw [← hk]; apply ok_rem_pos; rfl; rfl; omega)) ?_
        | refine sd (v := .int .i64 kk) (h := by (rw [← hk]; apply ok_rem_pos; rfl; rfl; omega)) ?_
        | refine st (v := .int .i64 w) (h := by (rw [← hw]; apply ok_mul64; rfl; rfl; (rw [hw]; omega))) ?_
        | refine sd (v := .int .i64 w) (h := by (rw [← hw]; apply ok_mul64; rfl; rfl; (rw [hw]; omega))) ?_
        | refine st ?_
        | refine stRW [0] HR ?_
        | refine sdRW [0] HR ?_
        | refine stMW [0] HS ?_
        | refine stRW [0, 2] HB ?_
        | refine stm ?_
        | refine run_want rfl rfl ?_
        | refine run_unwant rfl rfl ?_
        | refine run_undef rfl rfl ?_
        | refine run_guard1t rfl rfl (by omega) ?_
        | refine run_guard1f rfl rfl (by omega) ?_
        | refine run_guard0t rfl rfl (by omega) ?_
        | refine run_guard0f rfl rfl (by omega) ?_
        | refine run_guard1 rfl rfl (fun h1 => ?_) (fun h1 => ?_)
        | refine run_guard0 rfl rfl (fun h1 => ?_) (fun h1 => ?_)
        | refine run_guard rfl rfl (fun h1 => ?_) (fun h1 => ?_)
        | refine run_nil ?_
        | refine aw_seq ?_
        | refine aw_region (by kernel_rfl) (Nat.le_of_ble_eq_true rfl) ?_
        | refine aw_block ?_
        | refine aw_cond_t rfl ?_
        | refine aw_cond_f rfl ?_
        | refine aw_cond_tp rfl (by omega) ?_
        | refine aw_cond_fp rfl (by omega) ?_
        | refine aw_cond1 rfl (fun h1 => ?_) (fun h1 => ?_)
        | refine aw_cond rfl (fun h1 => ?_) (fun h1 => ?_)
        | refine aw_skip ?_
        | refine aw_exit ?_
        | refine aw_ret ?_
        | refine pp_ret ?_
        | refine pp_normal ?_
      all_goals first
        | rfl
        | (exfalso; omega)
        | (exfalso; simp only [Bool.not_eq_true', Bool.not_eq_false', decide_eq_true_eq, decide_eq_false_iff_not, Bool.not_false, Bool.not_true] at *; omega)
        | (exfalso; simp_all; first | done | omega)
    · rw [if_pos rfl] at hx
      obtain ⟨rfl, rfl⟩ := Prod.mk.inj hx.symm
      refine acalls_law Try.func18 rfl rfl rfl ?_
      repeat' first
        | refine st (h := ok_not_dec2 rfl) ?_
        | refine st (v := .int .i64 q) (h := by (rw [← hq]; apply ok_rem_pos; rfl; rfl; omega)) ?_
        | refine sd (v := .int .i64 q) (h := by (rw [← hq]; apply ok_rem_pos; rfl; rfl; omega)) ?_
        | refine st (v := .int .i64 v) (h := by (rw [← hv]; apply ok_quo64; rfl; rfl; omega)) ?_
        | refine sd (v := .int .i64 v) (h := by (rw [← hv]; apply ok_quo64; rfl; rfl; omega)) ?_
        | refine st (v := .int .i64 kk) (h := by (rw [← hk]; apply ok_rem_pos; rfl; rfl; omega)) ?_
        | refine sd (v := .int .i64 kk) (h := by (rw [← hk]; apply ok_rem_pos; rfl; rfl; omega)) ?_
        | refine st (v := .int .i64 w) (h := by (rw [← hw]; apply ok_mul64; rfl; rfl; (rw [hw]; omega))) ?_
        | refine sd (v := .int .i64 w) (h := by (rw [← hw]; apply ok_mul64; rfl; rfl; (rw [hw]; omega))) ?_
        | refine st ?_
        | refine stRW [0] HR ?_
        | refine sdRW [0] HR ?_
        | refine stMW [0] HS ?_
        | refine stRW [0, 2] HB ?_
        | refine stm ?_
        | refine run_want rfl rfl ?_
        | refine run_unwant rfl rfl ?_
        | refine run_undef rfl rfl ?_
        | refine run_guard1t rfl rfl (by omega) ?_
        | refine run_guard1f rfl rfl (by omega) ?_
        | refine run_guard0t rfl rfl (by omega) ?_
        | refine run_guard0f rfl rfl (by omega) ?_
        | refine run_guard1 rfl rfl (fun h1 => ?_) (fun h1 => ?_)
        | refine run_guard0 rfl rfl (fun h1 => ?_) (fun h1 => ?_)
        | refine run_guard rfl rfl (fun h1 => ?_) (fun h1 => ?_)
        | refine run_nil ?_
        | refine aw_seq ?_
        | refine aw_region (by kernel_rfl) (Nat.le_of_ble_eq_true rfl) ?_
        | refine aw_block ?_
        | refine aw_cond_t rfl ?_
        | refine aw_cond_f rfl ?_
        | refine aw_cond_tp rfl (by omega) ?_
        | refine aw_cond_fp rfl (by omega) ?_
        | refine aw_cond1 rfl (fun h1 => ?_) (fun h1 => ?_)
        | refine aw_cond rfl (fun h1 => ?_) (fun h1 => ?_)
        | refine aw_skip ?_
        | refine aw_exit ?_
        | refine aw_ret ?_
        | refine pp_ret ?_
        | refine pp_normal ?_
      all_goals first
        | rfl
        | (exfalso; omega)
        | (exfalso; simp only [Bool.not_eq_true', Bool.not_eq_false', decide_eq_true_eq, decide_eq_false_iff_not, Bool.not_false, Bool.not_true] at *; omega)
        | (exfalso; simp_all; first | done | omega)
end Go.Proofs.Ytfabgdignlfihaa
