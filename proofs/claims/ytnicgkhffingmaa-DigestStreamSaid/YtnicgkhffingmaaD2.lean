/- Digest: the small functions' walks. -/
import Derived.Test.YtnicgkhffingmaaI
import Derived.Test.YtnicgkhffingmaaP
set_option linter.unusedVariables false
set_option linter.unusedSimpArgs false
namespace Go.Proofs.Ytnicgkhffingmaa
open Go Av
set_option maxRecDepth 20000
theorem aw_digit (c : Int) : ACalls Try.prog 16 [.int .u8 c] [] (.int .i64 (dgI c)) [] := by
  have h1 := wrap8 (c - 97)
  have h2 := wrap8 (c - 48)
  refine acalls_pure Try.func16 rfl rfl rfl ?_
  repeat' first
    | refine st ?_
    | refine stm ?_
    | refine run_want rfl rfl ?_
    | refine run_unwant rfl rfl ?_
    | refine run_undef rfl rfl ?_
    | refine run_guard1t rfl rfl (by omega) ?_
    | refine run_guard1f rfl rfl (by omega) ?_
    | refine run_guard0t rfl rfl (by omega) ?_
    | refine run_guard0f rfl rfl (by omega) ?_
    | refine run_guard1 rfl rfl (fun h1 => ?_) (fun h1 => ?_)
    | refine run_guard0 rfl rfl (fun h1 => ?_) (fun h1 => ?_)
    | refine run_guard rfl rfl (fun h1 => ?_) (fun h1 => ?_)
    | refine run_nil ?_
    | refine aw_seq ?_
    | refine aw_region (by kernel_rfl) (Nat.le_of_ble_eq_true rfl) ?_
    | refine aw_block ?_
    | refine aw_cond_t rfl ?_
    | refine aw_cond_f rfl ?_
    | refine aw_cond_tp rfl (by omega) ?_
    | refine aw_cond_fp rfl (by omega) ?_
    | refine aw_cond1 rfl (fun h1 => ?_) (fun h1 => ?_)
    | refine aw_cond rfl (fun h1 => ?_) (fun h1 => ?_)
    | refine aw_skip ?_
    | refine aw_exit ?_
    | refine aw_ret ?_
    | refine pp_ret ?_
    | refine pp_normal ?_

  all_goals simp [retOf, dgI, *]
theorem aw_init : ACalls Try.prog 18 [] [] (.agg #[.int .u32 (ivs.getD 0 0), .int .u32 (ivs.getD 1 0), .int .u32 (ivs.getD 2 0), .int .u32 (ivs.getD 3 0), .int .u32 (ivs.getD 4 0), .int .u32 (ivs.getD 5 0), .int .u32 (ivs.getD 6 0), .int .u32 (ivs.getD 7 0)]) [] := by
  refine acalls_pure Try.func18 rfl rfl rfl ?_
  repeat' first
    | refine st ?_
    | refine stm ?_
    | refine run_want rfl rfl ?_
    | refine run_unwant rfl rfl ?_
    | refine run_undef rfl rfl ?_
    | refine run_guard1t rfl rfl (by omega) ?_
    | refine run_guard1f rfl rfl (by omega) ?_
    | refine run_guard0t rfl rfl (by omega) ?_
    | refine run_guard0f rfl rfl (by omega) ?_
    | refine run_guard1 rfl rfl (fun h1 => ?_) (fun h1 => ?_)
    | refine run_guard0 rfl rfl (fun h1 => ?_) (fun h1 => ?_)
    | refine run_guard rfl rfl (fun h1 => ?_) (fun h1 => ?_)
    | refine run_nil ?_
    | refine aw_seq ?_
    | refine aw_region (by kernel_rfl) (Nat.le_of_ble_eq_true rfl) ?_
    | refine aw_block ?_
    | refine aw_cond_t rfl ?_
    | refine aw_cond_f rfl ?_
    | refine aw_cond_tp rfl (by omega) ?_
    | refine aw_cond_fp rfl (by omega) ?_
    | refine aw_cond1 rfl (fun h1 => ?_) (fun h1 => ?_)
    | refine aw_cond rfl (fun h1 => ?_) (fun h1 => ?_)
    | refine aw_skip ?_
    | refine aw_exit ?_
    | refine aw_ret ?_
    | refine pp_ret ?_
    | refine pp_normal ?_

  all_goals rfl
theorem aw_lane (i : Nat) (h : i < 8) : ACalls Try.prog 22 [.int .i64 i] [] (.agg #[.int .i64 (ln i 0), .int .i64 (ln i 1), .int .i64 (ln i 2), .int .i64 (ln i 3)]) [] := by
  rcases h8 i h with rfl | rfl | rfl | rfl | rfl | rfl | rfl | rfl
  all_goals
    refine acalls_pure Try.func22 rfl rfl rfl ?_
    repeat' first
      | refine st ?_
      | refine stm ?_
      | refine run_want rfl rfl ?_
      | refine run_unwant rfl rfl ?_
      | refine run_undef rfl rfl ?_
      | refine run_guard1t rfl rfl (by omega) ?_
      | refine run_guard1f rfl rfl (by omega) ?_
      | refine run_guard0t rfl rfl (by omega) ?_
      | refine run_guard0f rfl rfl (by omega) ?_
      | refine run_guard1 rfl rfl (fun h1 => ?_) (fun h1 => ?_)
      | refine run_guard0 rfl rfl (fun h1 => ?_) (fun h1 => ?_)
      | refine run_guard rfl rfl (fun h1 => ?_) (fun h1 => ?_)
      | refine run_nil ?_
      | refine aw_seq ?_
      | refine aw_region (by kernel_rfl) (Nat.le_of_ble_eq_true rfl) ?_
      | refine aw_block ?_
      | refine aw_cond_t rfl ?_
      | refine aw_cond_f rfl ?_
      | refine aw_cond_tp rfl (by omega) ?_
      | refine aw_cond_fp rfl (by omega) ?_
      | refine aw_cond1 rfl (fun h1 => ?_) (fun h1 => ?_)
      | refine aw_cond rfl (fun h1 => ?_) (fun h1 => ?_)
      | refine aw_skip ?_
      | refine aw_exit ?_
      | refine aw_ret ?_
      | refine pp_ret ?_
      | refine pp_normal ?_

  all_goals rfl
theorem aw_sched (i : Nat) (h : i < 10) : ACalls Try.prog 21 [.int .i64 i] [] (.string (scheds.getD i .empty)) [] := by
  rcases h10 i h with rfl | rfl | rfl | rfl | rfl | rfl | rfl | rfl | rfl | rfl
  all_goals
    refine acalls_pure Try.func21 rfl rfl rfl ?_
    repeat' first
      | refine st ?_
      | refine stm ?_
      | refine run_want rfl rfl ?_
      | refine run_unwant rfl rfl ?_
      | refine run_undef rfl rfl ?_
      | refine run_guard1t rfl rfl (by omega) ?_
      | refine run_guard1f rfl rfl (by omega) ?_
      | refine run_guard0t rfl rfl (by omega) ?_
      | refine run_guard0f rfl rfl (by omega) ?_
      | refine run_guard1 rfl rfl (fun h1 => ?_) (fun h1 => ?_)
      | refine run_guard0 rfl rfl (fun h1 => ?_) (fun h1 => ?_)
      | refine run_guard rfl rfl (fun h1 => ?_) (fun h1 => ?_)
      | refine run_nil ?_
      | refine aw_seq ?_
      | refine aw_region (by kernel_rfl) (Nat.le_of_ble_eq_true rfl) ?_
      | refine aw_block ?_
      | refine aw_cond_t rfl ?_
      | refine aw_cond_f rfl ?_
      | refine aw_cond_tp rfl (by omega) ?_
      | refine aw_cond_fp rfl (by omega) ?_
      | refine aw_cond1 rfl (fun h1 => ?_) (fun h1 => ?_)
      | refine aw_cond rfl (fun h1 => ?_) (fun h1 => ?_)
      | refine aw_skip ?_
      | refine aw_exit ?_
      | refine aw_ret ?_
      | refine pp_ret ?_
      | refine pp_normal ?_

  all_goals rfl
end Go.Proofs.Ytnicgkhffingmaa
