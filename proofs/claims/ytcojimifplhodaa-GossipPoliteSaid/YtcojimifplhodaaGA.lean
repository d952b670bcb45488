/- Gossip: the chapter's example. -/
import Derived.Test.YtcojimifplhodaaGG
set_option linter.unusedVariables false
set_option linter.unusedSimpArgs false
namespace Go.Proofs.Ytcojimifplhodaa
open Go Av
set_option maxRecDepth 20000
set_option maxHeartbeats 4000000 in
theorem ac_awake47 : ACalls Try.prog 9 [] [] (.bool true) [] := by
  have H1 : ACalls Try.prog 10 [.agg #[.int .i64 4, .int .i64 2, .int .i64 1], .int .i64 10, .int .u32 5] [] (.tuple #[.agg #[.int .i64 4, .int .i64 10, .int .i64 13, .int .i64 0], .int .i64 0]) [] := ac_start0 4 2 1 10 5 rfl (by decide) (by decide)
  have H2 : ACalls Try.prog 12 [.agg #[.int .i64 4, .int .i64 2, .int .i64 1], .agg #[.int .i64 4, .int .i64 10, .int .i64 13, .int .i64 0], .int .i64 13, .int .u32 0] [] (.tuple #[.agg #[.int .i64 4, .int .i64 10, .int .i64 13, .int .i64 0], .bool true, .int .i64 0]) [] := ac_step_in 4 2 1 4 10 13 0 13 0 true cE_13 (by decide) (by decide)
  have H3 : ACalls Try.prog 14 [.agg #[.int .i64 4, .int .i64 2, .int .i64 1], .agg #[.int .i64 4, .int .i64 10, .int .i64 13, .int .i64 0], .bool true, .int .i64 12, .int .u32 0] [] (.tuple #[.agg #[.int .i64 4, .int .i64 10, .int .i64 13, .int .i64 1], .int .i64 0]) [] := ac_hear_eq 4 2 1 4 10 13 0 12 0 1 cE_12 (by decide)
  have H4 : ACalls Try.prog 12 [.agg #[.int .i64 4, .int .i64 2, .int .i64 1], .agg #[.int .i64 4, .int .i64 10, .int .i64 13, .int .i64 1], .int .i64 13, .int .u32 0] [] (.tuple #[.agg #[.int .i64 4, .int .i64 10, .int .i64 13, .int .i64 1], .bool false, .int .i64 0]) [] := ac_step_in 4 2 1 4 10 13 1 13 0 false cE_13h (by decide) (by decide)
  have H5 : ACalls Try.prog 12 [.agg #[.int .i64 4, .int .i64 2, .int .i64 1], .agg #[.int .i64 4, .int .i64 10, .int .i64 13, .int .i64 0], .int .i64 14, .int .u32 1] [] (.tuple #[.agg #[.int .i64 8, .int .i64 14, .int .i64 19, .int .i64 0], .bool false, .int .i64 0]) [] := ac_step_out 4 2 1 4 10 13 0 14 1 8 false (by decide) cE_14 (by decide) (by decide) (by decide) (by decide)
  have H6 : ACalls Try.prog 17 [.agg #[.int .i64 4, .int .i64 2, .int .i64 1]] [] (.int .i64 16) [] := ac_Great 4 2 1 rfl
  refine acalls_law Try.func9 rfl rfl rfl ?_
  repeat' first
    | refine st (h := ok_not_dec2 rfl) ?_
    | refine st (h := ok_agg_eqlT rfl rfl (by ((repeat constructor); first | done | fail)) (by simp)) ?_
    | refine st ?_
    | refine st_call (H1) ?_
    | refine st_call (H2) ?_
    | refine st_call (H3) ?_
    | refine st_call (H4) ?_
    | refine st_call (H5) ?_
    | refine st_call (H6) ?_
    | refine sd_call (H1) ?_
    | refine sd_call (H2) ?_
    | refine sd_call (H3) ?_
    | refine sd_call (H4) ?_
    | refine sd_call (H5) ?_
    | refine sd_call (H6) ?_
    | refine stm ?_
    | refine run_want rfl rfl ?_
    | refine run_unwant rfl rfl ?_
    | refine run_undef rfl rfl ?_
    | refine run_guard1t rfl rfl (by omega) ?_
    | refine run_guard1f rfl rfl (by omega) ?_
    | refine run_guard0t rfl rfl (by omega) ?_
    | refine run_guard0f rfl rfl (by omega) ?_
    | refine run_guard1 rfl rfl (fun h1 => ?_) (fun h1 => ?_)
    | refine run_guard0 rfl rfl (fun h1 => ?_) (fun h1 => ?_)
    | refine run_guard rfl rfl (fun h1 => ?_) (fun h1 => ?_)
    | refine run_nil ?_
    | refine aw_seq ?_
    | refine aw_region (by kernel_rfl) (Nat.le_of_ble_eq_true rfl) ?_
    | refine aw_block ?_
    | refine aw_cond_t rfl ?_
    | refine aw_cond_f rfl ?_
    | refine aw_cond_tp rfl (by omega) ?_
    | refine aw_cond_fp rfl (by omega) ?_
    | refine aw_cond1 rfl (fun h1 => ?_) (fun h1 => ?_)
    | refine aw_cond rfl (fun h1 => ?_) (fun h1 => ?_)
    | refine aw_skip ?_
    | refine aw_exit ?_
    | refine aw_ret ?_
    | refine pp_ret ?_
    | refine pp_normal ?_
  all_goals first
    | rfl
    | (exfalso; omega)
    | (simp [retOf]; done)
    | (exfalso; simp_all; done)
end Go.Proofs.Ytcojimifplhodaa
