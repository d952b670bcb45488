/- DigestCompresses: the law. -/
import Derived.Test.YtclaiphadaeinaaD14
set_option linter.unusedVariables false
set_option linter.unusedSimpArgs false
namespace Go.Proofs.Ytclaiphadaeinaa
open Go Av
set_option maxRecDepth 100000
set_option maxHeartbeats 4000000 in
theorem law_compresses (v0 v1 v2 v3 g0 g1 g2 g3 g4 g5 g6 g7 m0 m1 m2 m3 m4 m5 m6 m7 m8 m9 m10 m11 m12 m13 m14 m15 t : Int) (last : Bool) : ACalls Try.prog 5 [.agg #[.int .u32 v0, .int .u32 v1, .int .u32 v2, .int .u32 v3, .int .u32 g0, .int .u32 g1, .int .u32 g2, .int .u32 g3, .int .u32 g4, .int .u32 g5, .int .u32 g6, .int .u32 g7, .int .u32 m0, .int .u32 m1, .int .u32 m2, .int .u32 m3, .int .u32 m4, .int .u32 m5, .int .u32 m6, .int .u32 m7, .int .u32 m8, .int .u32 m9, .int .u32 m10, .int .u32 m11, .int .u32 m12, .int .u32 m13, .int .u32 m14, .int .u32 m15, .int .u64 t], .bool last] [] (.bool true) [] := by
  have h1 := aw_mix v0 v1 v2 v3 m0 m1
  have h2 := aw_rmix v0 v1 v2 v3 m0 m1
  have h3 := aw_compress g0 g1 g2 g3 g4 g5 g6 g7 m0 m1 m2 m3 m4 m5 m6 m7 m8 m9 m10 m11 m12 m13 m14 m15 t last _ rfl
  have h4 := aw_rcompress g0 g1 g2 g3 g4 g5 g6 g7 m0 m1 m2 m3 m4 m5 m6 m7 m8 m9 m10 m11 m12 m13 m14 m15 t last _ rfl
  generalize cmp [g0, g1, g2, g3, g4, g5, g6, g7] [m0, m1, m2, m3, m4, m5, m6, m7, m8, m9, m10, m11, m12, m13, m14, m15] t last = C at h3 h4
  generalize mix v0 v1 v2 v3 m0 m1 = X at h1 h2
  refine acalls_pure Try.func5 rfl rfl rfl ?_
  repeat' first
    | refine st ?_
    | refine st_call (ac_awake) ?_
    | refine st_call (h1) ?_
    | refine st_call (h2) ?_
    | refine st_call (h3) ?_
    | refine st_call (h4) ?_
    | refine st (h := ok_arr_eql rfl rfl (by (repeat constructor)) (by (repeat constructor)) (by rfl) (by rfl) (by kernel_rfl)) ?_
    | refine st (h := ok_arr_neq rfl rfl (by (repeat constructor)) (by (repeat constructor)) (by rfl) (by rfl) (by kernel_rfl)) ?_
    | refine sd (h := ok_arr_eql rfl rfl (by (repeat constructor)) (by (repeat constructor)) (by rfl) (by rfl) (by kernel_rfl)) ?_
    | refine sd (h := ok_arr_neq rfl rfl (by (repeat constructor)) (by (repeat constructor)) (by rfl) (by rfl) (by kernel_rfl)) ?_
    | refine stm ?_
    | refine run_want rfl rfl ?_
    | refine run_unwant rfl rfl ?_
    | refine run_undef rfl rfl ?_
    | refine run_guard1t rfl rfl (by omega) ?_
    | refine run_guard1f rfl rfl (by omega) ?_
    | refine run_guard0t rfl rfl (by omega) ?_
    | refine run_guard0f rfl rfl (by omega) ?_
    | refine run_guard1 rfl rfl (fun h1 => ?_) (fun h1 => ?_)
    | refine run_guard0 rfl rfl (fun h1 => ?_) (fun h1 => ?_)
    | refine run_guard rfl rfl (fun h1 => ?_) (fun h1 => ?_)
    | refine run_nil ?_
    | refine sd ?_
    | refine sdl ?_
    | refine sd_call (ac_awake) ?_
    | refine sd_call (h1) ?_
    | refine sd_call (h2) ?_
    | refine sd_call (h3) ?_
    | refine sd_call (h4) ?_
    | refine sdm ?_
    | refine sdb ?_
    | refine rund_want rfl rfl ?_
    | refine rund_unwant rfl rfl ?_
    | refine rund_undef rfl rfl ?_
    | refine rund_guard1 rfl rfl (fun h1 => ?_) (fun h1 => ?_)
    | refine rund_guard0 rfl rfl (fun h1 => ?_) (fun h1 => ?_)
    | refine rund_guard rfl rfl (fun h1 => ?_) (fun h1 => ?_)
    | refine rund_nil ?_
    | refine aw_seq ?_
    | refine aw_region (by kernel_rfl) (Nat.le_of_ble_eq_true rfl) ?_
    | refine aw_region_d (id := 1) [0, 1, 3, 7, 3, 19, 51, 3, 131, 387, 1023, 3, 2051, 3, 8195, 24579, 3, 65539, 196611, 524287, 1048575, 2097151, 4194303, 8388607, 16777215, 8388607, 41943039, 8388607, 142606335, 8388607, 1073741823, 8388607, 2155872255, 8388607, 8598323199, 8388607, 34368126975, 8388607, 274877906943, 549755813887, 1099511627775, 2199023255551] 42 (by kernel_rfl) (by kernel_rfl) (by kernel_rfl) (Nat.le_of_ble_eq_true rfl) ?_
    | refine aw_block ?_
    | refine aw_cond_t rfl ?_
    | refine aw_cond_f rfl ?_
    | refine aw_cond_tp rfl (by omega) ?_
    | refine aw_cond_fp rfl (by omega) ?_
    | refine aw_cond1 rfl (fun h1 => ?_) (fun h1 => ?_)
    | refine aw_cond rfl (fun h1 => ?_) (fun h1 => ?_)
    | refine aw_skip ?_
    | refine aw_exit ?_
    | refine aw_ret ?_
    | refine pp_ret ?_
    | refine pp_normal ?_
  all_goals (first | rfl | exact absurd rfl h1 | simp [retOf])
end Go.Proofs.Ytclaiphadaeinaa
