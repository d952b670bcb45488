/- DigestKeys: the law. -/
import Derived.Test.YtclaiphadaeinaaD14
set_option linter.unusedVariables false
set_option linter.unusedSimpArgs false
namespace Go.Proofs.Ytclaiphadaeinaa
open Go Av
set_option maxRecDepth 100000
theorem dig_size (n : Int) (X : List UInt8) : (dig n X).size = 32 := by
  show (outB _ 8).toArray.size = 32
  simp [outB]
set_option maxHeartbeats 2000000 in
theorem law_keys (a b d : ByteArray) : ACalls Try.prog 9 [.string a, .string b, .string d] [] (.bool true) [] := by
  by_cases h : a.size ≤ 32 ∧ b.size ≤ 32 ∧ d.size ≤ 300
  · have k1 := ac_Keyed a d (by omega) (by omega)
    have k3 := ac_Keyed ⟨#[]⟩ d (by decide) (by omega)
    rw [show (((ByteArray.mk #[]).size : Nat) : Int) = 0 from rfl, show kx (ByteArray.mk #[]).data.toList d.data.toList = d.data.toList from rfl] at k3
    have k4 := ac_Sum d (by omega)
    have k5 := ac_rKeyed a d (by omega) (by omega)
    have s1 := dig_size (a.size : Int) (kx a.data.toList d.data.toList)
    generalize dig (a.size : Int) (kx a.data.toList d.data.toList) = X at k1 k5 s1
    generalize dig 0 d.data.toList = Z at k3 k4
    by_cases hab : a = b
    · subst hab
      refine acalls_pure Try.func9 rfl rfl rfl ?_
      repeat' first
        | refine st ?_
        | refine st_call (ac_awake) ?_
        | refine st_call (k1) ?_
        | refine st_call (k3) ?_
        | refine st_call (k4) ?_
        | refine st_call (k5) ?_
        | refine stm ?_
        | refine run_want rfl rfl ?_
        | refine run_unwant rfl rfl ?_
        | refine run_undef rfl rfl ?_
        | refine run_guard1t rfl rfl (by omega) ?_
        | refine run_guard1f rfl rfl (by omega) ?_
        | refine run_guard0t rfl rfl (by omega) ?_
        | refine run_guard0f rfl rfl (by omega) ?_
        | refine run_guard1 rfl rfl (fun h1 => ?_) (fun h1 => ?_)
        | refine run_guard0 rfl rfl (fun h1 => ?_) (fun h1 => ?_)
        | refine run_guard rfl rfl (fun h1 => ?_) (fun h1 => ?_)
        | refine run_nil ?_
        | refine aw_seq ?_
        | refine aw_region (by kernel_rfl) (Nat.le_of_ble_eq_true rfl) ?_
        | refine aw_block ?_
        | refine aw_cond_t rfl ?_
        | refine aw_cond_f rfl ?_
        | refine aw_cond_tp rfl (by omega) ?_
        | refine aw_cond_fp rfl (by omega) ?_
        | refine aw_cond1 rfl (fun h1 => ?_) (fun h1 => ?_)
        | refine aw_cond rfl (fun h1 => ?_) (fun h1 => ?_)
        | refine aw_skip ?_
        | refine aw_exit ?_
        | refine aw_ret ?_
        | refine pp_ret ?_
        | refine pp_normal ?_
      all_goals (first | rfl | (exfalso; omega) | exact absurd rfl h1 | simp [retOf])
    · have k2 := ac_Keyed b d (by omega) (by omega)
      have k6 := ac_rKeyed b d (by omega) (by omega)
      generalize dig (b.size : Int) (kx b.data.toList d.data.toList) = Y at k2 k6
      refine acalls_pure Try.func9 rfl rfl rfl ?_
      repeat' first
        | refine st ?_
        | refine st_call (ac_awake) ?_
        | refine st_call (k1) ?_
        | refine st_call (k2) ?_
        | refine st_call (k3) ?_
        | refine st_call (k4) ?_
        | refine st_call (k5) ?_
        | refine st_call (k6) ?_
        | refine stm ?_
        | refine run_want rfl rfl ?_
        | refine run_unwant rfl rfl ?_
        | refine run_undef rfl rfl ?_
        | refine run_guard1t rfl rfl (by omega) ?_
        | refine run_guard1f rfl rfl (by omega) ?_
        | refine run_guard0t rfl rfl (by omega) ?_
        | refine run_guard0f rfl rfl (by omega) ?_
        | refine run_guard1 rfl rfl (fun h1 => ?_) (fun h1 => ?_)
        | refine run_guard0 rfl rfl (fun h1 => ?_) (fun h1 => ?_)
        | refine run_guard rfl rfl (fun h1 => ?_) (fun h1 => ?_)
        | refine run_nil ?_
        | refine aw_seq ?_
        | refine aw_region (by kernel_rfl) (Nat.le_of_ble_eq_true rfl) ?_
        | refine aw_block ?_
        | refine aw_cond_t rfl ?_
        | refine aw_cond_f rfl ?_
        | refine aw_cond_tp rfl (by omega) ?_
        | refine aw_cond_fp rfl (by omega) ?_
        | refine aw_cond1 rfl (fun h1 => ?_) (fun h1 => ?_)
        | refine aw_cond rfl (fun h1 => ?_) (fun h1 => ?_)
        | refine aw_skip ?_
        | refine aw_exit ?_
        | refine aw_ret ?_
        | refine pp_ret ?_
        | refine pp_normal ?_
      all_goals (first | rfl | (exfalso; omega) | exact absurd rfl h1 | exact absurd h1 hab | (simp [retOf]; done) | (by_cases hXY : X = Y <;> simp_all [retOf]))
  · refine acalls_pure Try.func9 rfl rfl rfl ?_
    repeat' first
      | refine st ?_
      | refine st_call (ac_awake) ?_
      | refine stm ?_
      | refine run_want rfl rfl ?_
      | refine run_unwant rfl rfl ?_
      | refine run_undef rfl rfl ?_
      | refine run_guard1t rfl rfl (by omega) ?_
      | refine run_guard1f rfl rfl (by omega) ?_
      | refine run_guard0t rfl rfl (by omega) ?_
      | refine run_guard0f rfl rfl (by omega) ?_
      | refine run_guard1 rfl rfl (fun h1 => ?_) (fun h1 => ?_)
      | refine run_guard0 rfl rfl (fun h1 => ?_) (fun h1 => ?_)
      | refine run_guard rfl rfl (fun h1 => ?_) (fun h1 => ?_)
      | refine run_nil ?_
      | refine aw_seq ?_
      | refine aw_region (by kernel_rfl) (Nat.le_of_ble_eq_true rfl) ?_
      | refine aw_block ?_
      | refine aw_cond_t rfl ?_
      | refine aw_cond_f rfl ?_
      | refine aw_cond_tp rfl (by omega) ?_
      | refine aw_cond_fp rfl (by omega) ?_
      | refine aw_cond1 rfl (fun h1 => ?_) (fun h1 => ?_)
      | refine aw_cond rfl (fun h1 => ?_) (fun h1 => ?_)
      | refine aw_skip ?_
      | refine aw_exit ?_
      | refine aw_ret ?_
      | refine pp_ret ?_
      | refine pp_normal ?_
    all_goals (first | rfl | (exfalso; omega) | simp [retOf])
end Go.Proofs.Ytclaiphadaeinaa
