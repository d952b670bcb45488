/- Digest: the reference's digests, with a key and without. -/
import Derived.Test.YtpofbjmmlommoaaD9
set_option linter.unusedVariables false
set_option linter.unusedSimpArgs false
namespace Go.Proofs.Ytpofbjmmlommoaa
open Go Av
set_option maxRecDepth 20000
theorem app_list (l : List UInt8) (d : ByteArray) : ((⟨l.toArray⟩ : ByteArray) ++ d).data.toList = l ++ d.data.toList := by
  rw [ByteArray.data_append, Array.toList_append]
theorem app_size (l : List UInt8) (d : ByteArray) : ((⟨l.toArray⟩ : ByteArray) ++ d).size = l.length + d.size := by
  rw [ByteArray.size_append]; rfl
theorem ac_rSum (d : ByteArray) (h : d.size ≤ 1048576) : ACalls Try.prog 48 [.string d] [] (.string (dig 0 d.data.toList)) [] := by
  have HR := ac_rsum 0 (by omega) d h
  refine acalls_pure Try.func48 rfl rfl rfl ?_
  repeat' first
    | refine st ?_
    | refine st_call (HR) ?_
    | refine stm ?_
    | refine run_want rfl rfl ?_
    | refine run_unwant rfl rfl ?_
    | refine run_undef rfl rfl ?_
    | refine run_guard1t rfl rfl (by omega) ?_
    | refine run_guard1f rfl rfl (by omega) ?_
    | refine run_guard0t rfl rfl (by omega) ?_
    | refine run_guard0f rfl rfl (by omega) ?_
    | refine run_guard1 rfl rfl (fun h1 => ?_) (fun h1 => ?_)
    | refine run_guard0 rfl rfl (fun h1 => ?_) (fun h1 => ?_)
    | refine run_guard rfl rfl (fun h1 => ?_) (fun h1 => ?_)
    | refine run_nil ?_
    | refine aw_seq ?_
    | refine aw_region (by kernel_rfl) (Nat.le_of_ble_eq_true rfl) ?_
    | refine aw_block ?_
    | refine aw_cond_t rfl ?_
    | refine aw_cond_f rfl ?_
    | refine aw_cond_tp rfl (by omega) ?_
    | refine aw_cond_fp rfl (by omega) ?_
    | refine aw_cond1 rfl (fun h1 => ?_) (fun h1 => ?_)
    | refine aw_cond rfl (fun h1 => ?_) (fun h1 => ?_)
    | refine aw_skip ?_
    | refine aw_exit ?_
    | refine aw_ret ?_
    | refine pp_ret ?_
    | refine pp_normal ?_
  rfl
end Go.Proofs.Ytpofbjmmlommoaa
