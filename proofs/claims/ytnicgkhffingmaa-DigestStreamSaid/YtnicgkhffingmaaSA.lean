/- Write takes in nothing. -/
import Derived.Test.YtnicgkhffingmaaD11
set_option linter.unusedVariables false
set_option linter.unusedSimpArgs false
namespace Go.Proofs.Ytnicgkhffingmaa
open Go Av
set_option maxRecDepth 20000
structure Wz where
  i : Nat
set_option maxHeartbeats 1000000 in
theorem ac_WriteO (q : Int) (L : List UInt8) (o n : Nat) (t p0 p1 p2 p3 p4 p5 p6 p7 : Int) : ACalls Try.prog 6 [.pointer (some ⟨0, 0, none⟩), .slice (some ⟨0, 0, some 1⟩) 0 0] [some ⟨[.int .u32 p0, .int .u32 p1, .int .u32 p2, .int .u32 p3, .int .u32 p4, .int .u32 p5, .int .u32 p6, .int .u32 p7, .slice (some ⟨1, o, none⟩) n n, .int .u64 t, .int .i64 q], true, 1⟩, some ⟨L.map u8v, true, 1⟩] (.int .i64 q) [some ⟨[.int .u32 p0, .int .u32 p1, .int .u32 p2, .int .u32 p3, .int .u32 p4, .int .u32 p5, .int .u32 p6, .int .u32 p7, .slice (some ⟨1, o, none⟩) n n, .int .u64 t, .int .i64 q], true, 1⟩, some ⟨L.map u8v, true, 1⟩] := by
  refine acalls_of_aw Try.func6 rfl rfl ?_
  repeat' first
    | refine st ?_
    | refine stm ?_
    | refine run_want rfl rfl ?_
    | refine run_unwant rfl rfl ?_
    | refine run_undef rfl rfl ?_
    | refine run_guard1t rfl rfl (by omega) ?_
    | refine run_guard1f rfl rfl (by omega) ?_
    | refine run_guard0t rfl rfl (by omega) ?_
    | refine run_guard0f rfl rfl (by omega) ?_
    | refine run_guard1 rfl rfl (fun h1 => ?_) (fun h1 => ?_)
    | refine run_guard0 rfl rfl (fun h1 => ?_) (fun h1 => ?_)
    | refine run_guard rfl rfl (fun h1 => ?_) (fun h1 => ?_)
    | refine run_nil ?_
    | refine aw_seq ?_
    | refine aw_region (by kernel_rfl) (Nat.le_of_ble_eq_true rfl) ?_
    | refine aw_block ?_
    | refine aw_cond_t rfl ?_
    | refine aw_cond_f rfl ?_
    | refine aw_cond_tp rfl (by omega) ?_
    | refine aw_cond_fp rfl (by omega) ?_
    | refine aw_cond1 rfl (fun h1 => ?_) (fun h1 => ?_)
    | refine aw_cond rfl (fun h1 => ?_) (fun h1 => ?_)
    | refine aw_skip ?_
    | refine aw_exit ?_
    | refine aw_ret ?_
    | refine pp_ret ?_
    | refine pp_normal ?_
  refine aw_loopg
    (S := fun y : Wz => [(0, .pointer (some ⟨0, 0, none⟩)), (8, .int .i64 0), (9, .int .i64 y.i)])
    (B := fun _ : Wz => [some ⟨[.int .u32 p0, .int .u32 p1, .int .u32 p2, .int .u32 p3, .int .u32 p4, .int .u32 p5, .int .u32 p6, .int .u32 p7, .slice (some ⟨1, o, none⟩) n n, .int .u64 t, .int .i64 q], true, 1⟩, some ⟨L.map u8v, true, 1⟩])
    (R := fun y : Wz => y.i = 0)
    (μ := fun y : Wz => 0) ⟨0⟩ (fitsD [0, 1]) rfl ?_
  rintro ⟨i⟩ h
  dsimp only at h ⊢
  subst h
  repeat' first
    | refine st ?_
    | refine stm ?_
    | refine run_want rfl rfl ?_
    | refine run_unwant rfl rfl ?_
    | refine run_undef rfl rfl ?_
    | refine run_guard1t rfl rfl (by omega) ?_
    | refine run_guard1f rfl rfl (by omega) ?_
    | refine run_guard0t rfl rfl (by omega) ?_
    | refine run_guard0f rfl rfl (by omega) ?_
    | refine run_guard1 rfl rfl (fun h1 => ?_) (fun h1 => ?_)
    | refine run_guard0 rfl rfl (fun h1 => ?_) (fun h1 => ?_)
    | refine run_guard rfl rfl (fun h1 => ?_) (fun h1 => ?_)
    | refine run_nil ?_
    | refine aw_seq ?_
    | refine aw_region (by kernel_rfl) (Nat.le_of_ble_eq_true rfl) ?_
    | refine aw_block ?_
    | refine aw_cond_t rfl ?_
    | refine aw_cond_f rfl ?_
    | refine aw_cond_tp rfl (by omega) ?_
    | refine aw_cond_fp rfl (by omega) ?_
    | refine aw_cond1 rfl (fun h1 => ?_) (fun h1 => ?_)
    | refine aw_cond rfl (fun h1 => ?_) (fun h1 => ?_)
    | refine aw_skip ?_
    | refine aw_exit ?_
    | refine aw_ret ?_
    | refine pp_ret ?_
    | refine pp_normal ?_
  all_goals first | (exfalso; omega) | exact pm_ret _ (renumA [0, 1]) rfl | exact pm_ret _ (renumD [0, 1]) rfl
end Go.Proofs.Ytnicgkhffingmaa
