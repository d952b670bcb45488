/- Digest: the small functions' walks. -/
import Derived.Test.YtnicgkhffingmaaI
import Derived.Test.YtnicgkhffingmaaP
set_option linter.unusedVariables false
set_option linter.unusedSimpArgs false
namespace Go.Proofs.Ytnicgkhffingmaa
open Go Av
set_option maxRecDepth 20000
theorem aw_rot (x k : Int) : ACalls Try.prog 17 [.int .u32 x, .int .i64 k] [] (.int .u32 (rot x k)) [] := by
  have hb : ∀ a : Int, 0 ≤ bitv .and .u64 a 31 ∧ bitv .and .u64 a 31 ≤ 31 := and31
  have hb2 := hb (IntKind.u64.wrap k)
  have hb3 : 0 ≤ IntKind.u64.wrap (32 - bitv .and .u64 (IntKind.u64.wrap k) 31) := by rw [wrap_id (by simp [IntKind.min, IntKind.signed]; omega) (by simp [IntKind.max, IntKind.signed, IntKind.bits]; omega)]; omega
  refine acalls_pure Try.func17 rfl rfl rfl ?_
  repeat' first
    | refine st ?_
    | refine stm ?_
    | refine run_want rfl rfl ?_
    | refine run_unwant rfl rfl ?_
    | refine run_undef rfl rfl ?_
    | refine run_guard1t rfl rfl (by omega) ?_
    | refine run_guard1f rfl rfl (by omega) ?_
    | refine run_guard0t rfl rfl (by omega) ?_
    | refine run_guard0f rfl rfl (by omega) ?_
    | refine run_guard1 rfl rfl (fun h1 => ?_) (fun h1 => ?_)
    | refine run_guard0 rfl rfl (fun h1 => ?_) (fun h1 => ?_)
    | refine run_guard rfl rfl (fun h1 => ?_) (fun h1 => ?_)
    | refine run_nil ?_
    | refine aw_seq ?_
    | refine aw_region (by kernel_rfl) (Nat.le_of_ble_eq_true rfl) ?_
    | refine aw_block ?_
    | refine aw_cond_t rfl ?_
    | refine aw_cond_f rfl ?_
    | refine aw_cond_tp rfl (by omega) ?_
    | refine aw_cond_fp rfl (by omega) ?_
    | refine aw_cond1 rfl (fun h1 => ?_) (fun h1 => ?_)
    | refine aw_cond rfl (fun h1 => ?_) (fun h1 => ?_)
    | refine aw_skip ?_
    | refine aw_exit ?_
    | refine aw_ret ?_
    | refine pp_ret ?_
    | refine pp_normal ?_

  all_goals rfl
set_option maxHeartbeats 1000000 in
theorem aw_mix (a b c d x y : Int) : ACalls Try.prog 12 [.agg #[.int .u32 a, .int .u32 b, .int .u32 c, .int .u32 d], .int .u32 x, .int .u32 y] [] (.agg #[.int .u32 ((mix a b c d x y).getD 0 0), .int .u32 ((mix a b c d x y).getD 1 0), .int .u32 ((mix a b c d x y).getD 2 0), .int .u32 ((mix a b c d x y).getD 3 0)]) [] := by
  refine acalls_pure Try.func12 rfl rfl rfl ?_
  repeat' first
    | refine st ?_
    | refine st_call (aw_rot _ _) ?_
    | refine stm ?_
    | refine run_want rfl rfl ?_
    | refine run_unwant rfl rfl ?_
    | refine run_undef rfl rfl ?_
    | refine run_guard1t rfl rfl (by omega) ?_
    | refine run_guard1f rfl rfl (by omega) ?_
    | refine run_guard0t rfl rfl (by omega) ?_
    | refine run_guard0f rfl rfl (by omega) ?_
    | refine run_guard1 rfl rfl (fun h1 => ?_) (fun h1 => ?_)
    | refine run_guard0 rfl rfl (fun h1 => ?_) (fun h1 => ?_)
    | refine run_guard rfl rfl (fun h1 => ?_) (fun h1 => ?_)
    | refine run_nil ?_
    | refine sd ?_
    | refine sdl ?_
    | refine sd_call (aw_rot _ _) ?_
    | refine sdm (n := 1) ?_
    | refine sdm ?_
    | refine sdb ?_
    | refine rund_want rfl rfl ?_
    | refine rund_unwant rfl rfl ?_
    | refine rund_undef rfl rfl ?_
    | refine rund_guard1 rfl rfl (fun h1 => ?_) (fun h1 => ?_)
    | refine rund_guard0 rfl rfl (fun h1 => ?_) (fun h1 => ?_)
    | refine rund_guard rfl rfl (fun h1 => ?_) (fun h1 => ?_)
    | refine rund_nil ?_
    | refine aw_seq ?_
    | refine aw_region (by kernel_rfl) (Nat.le_of_ble_eq_true rfl) ?_
    | refine aw_region_d (id := 1) [0, 1, 0, 4, 0, 16, 0, 64, 3, 271, 831, 2047] 12 (by kernel_rfl) (by kernel_rfl) (by kernel_rfl) (Nat.le_of_ble_eq_true rfl) ?_
    | refine aw_block ?_
    | refine aw_cond_t rfl ?_
    | refine aw_cond_f rfl ?_
    | refine aw_cond_tp rfl (by omega) ?_
    | refine aw_cond_fp rfl (by omega) ?_
    | refine aw_cond1 rfl (fun h1 => ?_) (fun h1 => ?_)
    | refine aw_cond rfl (fun h1 => ?_) (fun h1 => ?_)
    | refine aw_skip ?_
    | refine aw_exit ?_
    | refine aw_ret ?_
    | refine pp_ret ?_
    | refine pp_normal ?_

  all_goals rfl
end Go.Proofs.Ytnicgkhffingmaa
