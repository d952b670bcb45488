/- Bits: the chapter's example. -/
import Derived.Test.YtmmaolnjjjdecaaE2
import Derived.Test.YtmmaolnjjjdecaaD7
import Derived.Test.YtmmaolnjjjdecaaC7
set_option linter.unusedVariables false
set_option linter.unusedSimpArgs false
namespace Go.Proofs.Ytmmaolnjjjdecaa
open Go Av
set_option maxRecDepth 20000
def A0 : ByteArray := ⟨#[191, 80, 64]⟩
theorem aw_1 : unsW [] 0 3 5 = ([1, 0, 1], 0) := by decide +kernel
theorem aw_2 : sgnW [1, 0, 1] 0 4 (-1) = ([1, 0, 1, 1, 1, 1, 1], 0) := by decide +kernel
theorem aw_3 : flgW [1, 0, 1, 1, 1, 1, 1] 0 true = ([1, 0, 1, 1, 1, 1, 1, 1], 0) := by decide +kernel
theorem aw_4 : txtW [1, 0, 1, 1, 1, 1, 1, 1] 0 3 ⟨#[65]⟩ = ([1, 0, 1, 1, 1, 1, 1, 1, 0, 1, 0, 1, 0, 0, 0, 0, 0, 1], 0) := by decide +kernel
theorem aw_p1 : pack [1, 0, 1] = [160] := by decide +kernel
theorem aw_p2 : pack [1, 0, 1, 1, 1, 1, 1] = [190] := by decide +kernel
theorem aw_p3 : pack [1, 0, 1, 1, 1, 1, 1, 1] = [191] := by decide +kernel
theorem aw_p4 : pack [1, 0, 1, 1, 1, 1, 1, 1, 0, 1, 0, 1, 0, 0, 0, 0, 0, 1] = [191, 80, 64] := by decide +kernel
theorem aw_r1 : unsR ⟨#[191, 80, 64]⟩ 0 0 3 = (5, 3, 0) := by decide +kernel
theorem aw_r2 : sgnR ⟨#[191, 80, 64]⟩ 3 0 4 = (-1, 7, 0) := by decide +kernel
theorem aw_r3 : flgR ⟨#[191, 80, 64]⟩ 7 0 = (true, 8, 0) := by decide +kernel
theorem aw_r4 : txtR ⟨#[191, 80, 64]⟩ 8 0 3 = (⟨#[65]⟩, 18, 0) := by decide +kernel
theorem aw_r5 : closeR ⟨#[191, 80, 64]⟩ 18 0 = 0 := by decide +kernel
theorem aw_w : wdth 3 = 2 := by decide +kernel
set_option maxHeartbeats 4000000 in
theorem ac_awake : ACalls Try.prog 11 [] [] (.bool true) [] := by
  have h1 := ac_unsigned 3 5 0 0 [] [1, 0, 1] [] [160] 0 1 0 3 rfl rfl rfl aw_1 aw_p1 rfl rfl (by decide) (by decide) (by decide)
  have h2 := ac_signed 4 (-1) 0 0 [1, 0, 1] [1, 0, 1, 1, 1, 1, 1] [160] [190] 1 1 3 7 aw_p1 rfl rfl aw_2 aw_p2 rfl rfl (by decide) (by decide) (by decide)
  have h3 := ac_flag true 0 0 [1, 0, 1, 1, 1, 1, 1] [1, 0, 1, 1, 1, 1, 1, 1] [190] [191] 1 1 7 8 aw_p2 rfl rfl aw_3 aw_p3 rfl rfl (by decide)
  have h4 := ac_text 3 ⟨#[65]⟩ 0 0 [1, 0, 1, 1, 1, 1, 1, 1] [1, 0, 1, 1, 1, 1, 1, 1, 0, 1, 0, 1, 0, 0, 0, 0, 0, 1] [191] [191, 80, 64] 1 3 8 18 aw_p3 rfl rfl aw_4 aw_p4 rfl rfl (by decide) (by decide) (by decide)
  have h5 := ac_bytes 3 18 [1, 0, 1, 1, 1, 1, 1, 1, 0, 1, 0, 1, 0, 0, 0, 0, 0, 1] [191, 80, 64] aw_p4 rfl
  have h6 := ac_bits 3 18 0 [191, 80, 64]
  have k0 := ac_newR ⟨#[191, 80, 64]⟩ (by decide)
  have k1 := ac_unsR 3 0 0 5 0 3 ⟨#[191, 80, 64]⟩ aw_r1 (by decide) (by decide) (by decide)
  have k2 := ac_sgnR 4 0 0 0 (-1) 3 7 ⟨#[191, 80, 64]⟩ aw_r2 (by decide) (by decide) (by decide)
  have k3 := ac_flgR 0 0 true 7 8 ⟨#[191, 80, 64]⟩ aw_r3 (by decide) (by decide)
  have k4 := ac_txtR 3 0 0 ⟨#[65]⟩ 8 18 ⟨#[191, 80, 64]⟩ aw_r4 (by decide) (by decide) (by decide)
  have k5 := ac_left 18 ⟨#[191, 80, 64]⟩ (by decide) (by decide)
  have k6 := ac_closeR 0 0 18 ⟨#[191, 80, 64]⟩ aw_r5 (by decide) (by decide)
  have k7 := ac_width 3 (by decide)
  rw [aw_w] at k7
  refine acalls_pure Try.func11 rfl rfl rfl ?_
  repeat' first
    | refine st ?_
    | refine st_call (k7) ?_
    | refine stMW [] ac_newW ?_
    | refine stMW [0, 1] h1 ?_
    | refine stMW [0, 2] h2 ?_
    | refine stMW [0, 3] h3 ?_
    | refine stMW [0, 4] h4 ?_
    | refine stRW [0, 5] h5 ?_
    | refine stRW [0, 5] h6 ?_
    | refine stMW [] k0 ?_
    | refine stMW [6] k1 ?_
    | refine stMW [6] k2 ?_
    | refine stMW [6] k3 ?_
    | refine stMW [6] k4 ?_
    | refine stRW [6] k5 ?_
    | refine stRW [6] k6 ?_
    | refine stm ?_
    | refine run_want rfl rfl ?_
    | refine run_unwant rfl rfl ?_
    | refine run_undef rfl rfl ?_
    | refine run_guard1t rfl rfl (by omega) ?_
    | refine run_guard1f rfl rfl (by omega) ?_
    | refine run_guard0t rfl rfl (by omega) ?_
    | refine run_guard0f rfl rfl (by omega) ?_
    | refine run_guard1 rfl rfl (fun h1 => ?_) (fun h1 => ?_)
    | refine run_guard0 rfl rfl (fun h1 => ?_) (fun h1 => ?_)
    | refine run_guard rfl rfl (fun h1 => ?_) (fun h1 => ?_)
    | refine run_nil ?_
    | refine aw_seq ?_
    | refine aw_region (by kernel_rfl) (Nat.le_of_ble_eq_true rfl) ?_
    | refine aw_block ?_
    | refine aw_cond_t rfl ?_
    | refine aw_cond_f rfl ?_
    | refine aw_cond_tp rfl (by omega) ?_
    | refine aw_cond_fp rfl (by omega) ?_
    | refine aw_cond1 rfl (fun h1 => ?_) (fun h1 => ?_)
    | refine aw_cond rfl (fun h1 => ?_) (fun h1 => ?_)
    | refine aw_skip ?_
    | refine aw_exit ?_
    | refine aw_ret ?_
    | refine pp_ret ?_
    | refine pp_normal ?_
  rfl
end Go.Proofs.Ytmmaolnjjjdecaa
