/- Messages: the chapter's example. -/
import Derived.Test.YtjamfmnlhiolkaaF9
import Derived.Test.YtjamfmnlhiolkaaH9
set_option linter.unusedVariables false
set_option linter.unusedSimpArgs false
namespace Go.Proofs.Ytjamfmnlhiolkaa
open Go Av
set_option maxRecDepth 20000
def W0 : ByteArray := encM (1, false, 5, 0, 1, [(3, 1, ()), (7, 0, ())], [])
theorem w0_chk : chk 1 5 0 1 false [(3, 1, ()), (7, 0, ())] [] = 0 := by decide +kernel
theorem w0_size : (pkB (msgB 1 5 0 1 false [(3, 1, ()), (7, 0, ())] [])).size = 8 := by decide +kernel
theorem w0_0 : (byteAt (pkB (msgB 1 5 0 1 false [(3, 1, ()), (7, 0, ())] [])) 0).toNat = 32 := by decide +kernel
theorem w0_1 : (byteAt (pkB (msgB 1 5 0 1 false [(3, 1, ()), (7, 0, ())] [])) 1).toNat = 80 := by decide +kernel
theorem w0_a : accP ansB (1, false, 5, 0, 1, [(3, 1, ()), (7, 0, ())], []) 1 [(7, 0, ())] [] = ((1, true, 5, 0, 1, [(7, 0, ())], []), 0) := by kernel_rfl
theorem w0_b : accP ansB (1, false, 5, 0, 1, [(3, 1, ()), (7, 0, ())], []) 1 [(7, 1, ())] [] = (msg0, 12) := by kernel_rfl
theorem w0_c : ansB (1, false, 5, 0, 1, [(3, 1, ()), (7, 0, ())], []) (1, true, 5, 0, 1, [(7, 0, ())], []) = true := by decide +kernel
set_option maxHeartbeats 8000000 in
theorem ac_awake : ACalls Try.prog 11 [] [] (.bool true) [] := by
  have H1 := ac_encode0 1 5 0 1 false [(3, 1, ()), (7, 0, ())] [] 2 0 rfl rfl w0_chk
  have z0 := w0_size
  have z1 : (byteAt (pkB (msgB 1 5 0 1 false [(3, 1, ()), (7, 0, ())] [])) (Int.toNat 0)).toNat = 32 := w0_0
  have z2 : (byteAt (pkB (msgB 1 5 0 1 false [(3, 1, ()), (7, 0, ())] [])) (Int.toNat 1)).toNat = 80 := w0_1
  generalize pkB (msgB 1 5 0 1 false [(3, 1, ()), (7, 0, ())] []) = w at H1 z0 z1 z2
  have H2 := ac_accept 1 5 0 1 false [(3, 1, ()), (7, 0, ())] [] 2 0 rfl rfl (by decide) (by decide) 1 [(7, 0, ())] [] [(7, 0, ())] [] 1 0 (by decide) (by decide) (by decide) (by decide) rfl rfl _ 0 1 0 rfl rfl w0_a
  have H3 := ac_accept 1 5 0 1 false [(3, 1, ()), (7, 0, ())] [] 2 0 rfl rfl (by decide) (by decide) 1 [(7, 1, ())] [] [(7, 1, ())] [] 1 0 (by decide) (by decide) (by decide) (by decide) rfl rfl _ 12 0 0 rfl rfl w0_b
  have H4 := ac_answers 1 5 0 1 1 5 0 1 false true [(3, 1, ()), (7, 0, ())] [] [(7, 0, ())] [] 2 0 1 0 rfl rfl rfl rfl (by decide) (by decide) (by decide) (by decide) true w0_c
  dsimp only [msg0] at H2 H3
  refine acalls_of_aw Try.func11 rfl rfl ?_
  refine aw_ghost 2 rfl ?_
  repeat' first
    | refine st ?_
    | refine stRW [1, 0] H1 ?_
    | refine stMW [1, 0, 3, 0] H2 ?_
    | refine stMW [1, 0, 7, 0] H3 ?_
    | refine stRW [1, 0, 4, 5] H4 ?_
    | refine stm ?_
    | refine run_want rfl rfl ?_
    | refine run_unwant rfl rfl ?_
    | refine run_undef rfl rfl ?_
    | refine run_guard1t rfl rfl (by omega) ?_
    | refine run_guard1f rfl rfl (by omega) ?_
    | refine run_guard0t rfl rfl (by omega) ?_
    | refine run_guard0f rfl rfl (by omega) ?_
    | refine run_guard1 rfl rfl (fun h1 => ?_) (fun h1 => ?_)
    | refine run_guard0 rfl rfl (fun h1 => ?_) (fun h1 => ?_)
    | refine run_guard rfl rfl (fun h1 => ?_) (fun h1 => ?_)
    | refine run_nil ?_
    | refine aw_seq ?_
    | refine aw_region (by kernel_rfl) (Nat.le_of_ble_eq_true rfl) ?_
    | refine aw_block ?_
    | refine aw_cond_t rfl ?_
    | refine aw_cond_f rfl ?_
    | refine aw_cond_tp rfl (by omega) ?_
    | refine aw_cond_fp rfl (by omega) ?_
    | refine aw_cond1 rfl (fun h1 => ?_) (fun h1 => ?_)
    | refine aw_cond rfl (fun h1 => ?_) (fun h1 => ?_)
    | refine aw_skip ?_
    | refine aw_exit ?_
    | refine aw_ret ?_
    | refine pp_ret ?_
    | refine pp_normal ?_
  all_goals first | (refine pm_ret _ (renumD []) ?_; simp [retOf, z1, z2, z0]; rfl) | (exfalso; omega)
end Go.Proofs.Ytjamfmnlhiolkaa
