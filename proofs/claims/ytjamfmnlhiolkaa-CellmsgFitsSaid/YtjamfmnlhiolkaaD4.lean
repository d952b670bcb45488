/- Bits: unsigned fields are read. -/
import Derived.Test.YtjamfmnlhiolkaaD3
set_option linter.unusedVariables false
set_option linter.unusedSimpArgs false
namespace Go.Proofs.Ytjamfmnlhiolkaa
open Go Av
set_option maxRecDepth 20000
def unsR (d : ByteArray) (a : Nat) (e w : Int) : Int × Nat × Int := fieldR d a e (decide (1 ≤ w ∧ w ≤ 63)) w
theorem fieldR_bd {d : ByteArray} {a a' : Nat} {e e' w v : Int} {r : Bool} (h : fieldR d a e r w = (v, a', e')) (hw : r = true → 1 ≤ w ∧ w ≤ 63) : 0 ≤ v ∧ v ≤ 9223372036854775807 := by
  unfold fieldR at h
  split at h
  · simp only [Prod.mk.injEq] at h; omega
  · split at h
    · simp only [Prod.mk.injEq] at h; omega
    · rename_i h2
      have hw := hw (by simpa using h2)
      split at h
      · simp only [Prod.mk.injEq] at h; omega
      · simp only [Prod.mk.injEq] at h
        have hb := rdN_bd d a w.toNat
        have h1 : (2 : Nat) ^ w.toNat ≤ 2 ^ 63 := Nat.pow_le_pow_right (by omega) (by omega)
        have h3 : ((2 ^ w.toNat : Nat) : Int) = (2 : Int) ^ w.toNat := by push_cast; rfl
        omega
theorem ac_unsR (w e e' v : Int) (a a' : Nat) (d : ByteArray) (hst : unsR d a e w = (v, a', e')) (ha : a ≤ 8 * d.size) (hd : d.size ≤ 1000000) (hw : -9223372036854775808 ≤ w ∧ w ≤ 9223372036854775807) :
    ACalls Try.prog 45 [.pointer (some ⟨0, 0, none⟩), .int .i64 w] [some ⟨[.string d, .int .i64 (a : Int), .int .i64 e], true, 1⟩] (.int .i64 v) [some ⟨[.string d, .int .i64 (a' : Int), .int .i64 e'], true, 1⟩] := by
  unfold unsR at hst
  by_cases h1 : 1 ≤ w
  · have hst' : fieldR d a e (decide (w ≤ 63)) w = (v, a', e') := by rw [← hst]; congr 1; simp [h1]
    have hv := fieldR_bd hst' (by simp; omega)
    have HX := ac_fieldR (decide (w ≤ 63)) w e e' v a a' d hst' ha hd (by simp; omega)
    refine acalls_of_aw Try.func45 rfl rfl ?_
    repeat' first
      | refine st ?_
      | refine stMW [0] HX ?_
      | refine stm ?_
      | refine run_want rfl rfl ?_
      | refine run_unwant rfl rfl ?_
      | refine run_undef rfl rfl ?_
      | refine run_guard1t rfl rfl (by omega) ?_
      | refine run_guard1f rfl rfl (by omega) ?_
      | refine run_guard0t rfl rfl (by omega) ?_
      | refine run_guard0f rfl rfl (by omega) ?_
      | refine run_guard1 rfl rfl (fun h1 => ?_) (fun h1 => ?_)
      | refine run_guard0 rfl rfl (fun h1 => ?_) (fun h1 => ?_)
      | refine run_guard rfl rfl (fun h1 => ?_) (fun h1 => ?_)
      | refine run_nil ?_
      | refine aw_seq ?_
      | refine aw_region (by kernel_rfl) (Nat.le_of_ble_eq_true rfl) ?_
      | refine aw_block ?_
      | refine aw_cond_t rfl ?_
      | refine aw_cond_f rfl ?_
      | refine aw_cond_tp rfl (by omega) ?_
      | refine aw_cond_fp rfl (by omega) ?_
      | refine aw_cond1 rfl (fun h1 => ?_) (fun h1 => ?_)
      | refine aw_cond rfl (fun h1 => ?_) (fun h1 => ?_)
      | refine aw_skip ?_
      | refine aw_exit ?_
      | refine aw_ret ?_
      | refine pp_ret ?_
      | refine pp_normal ?_
    all_goals first | exact pm_ret _ (renumD [0]) rfl | (exfalso; omega)
  · have hst' : fieldR d a e false w = (v, a', e') := by rw [← hst]; congr 1; simp [h1]
    have hv := fieldR_bd hst' (by simp)
    have HX := ac_fieldR false w e e' v a a' d hst' ha hd (by simp)
    refine acalls_of_aw Try.func45 rfl rfl ?_
    repeat' first
      | refine st ?_
      | refine stMW [0] HX ?_
      | refine stm ?_
      | refine run_want rfl rfl ?_
      | refine run_unwant rfl rfl ?_
      | refine run_undef rfl rfl ?_
      | refine run_guard1t rfl rfl (by omega) ?_
      | refine run_guard1f rfl rfl (by omega) ?_
      | refine run_guard0t rfl rfl (by omega) ?_
      | refine run_guard0f rfl rfl (by omega) ?_
      | refine run_guard1 rfl rfl (fun h1 => ?_) (fun h1 => ?_)
      | refine run_guard0 rfl rfl (fun h1 => ?_) (fun h1 => ?_)
      | refine run_guard rfl rfl (fun h1 => ?_) (fun h1 => ?_)
      | refine run_nil ?_
      | refine aw_seq ?_
      | refine aw_region (by kernel_rfl) (Nat.le_of_ble_eq_true rfl) ?_
      | refine aw_block ?_
      | refine aw_cond_t rfl ?_
      | refine aw_cond_f rfl ?_
      | refine aw_cond_tp rfl (by omega) ?_
      | refine aw_cond_fp rfl (by omega) ?_
      | refine aw_cond1 rfl (fun h1 => ?_) (fun h1 => ?_)
      | refine aw_cond rfl (fun h1 => ?_) (fun h1 => ?_)
      | refine aw_skip ?_
      | refine aw_exit ?_
      | refine aw_ret ?_
      | refine pp_ret ?_
      | refine pp_normal ?_
    all_goals first | exact pm_ret _ (renumD [0]) rfl | (exfalso; omega)
end Go.Proofs.Ytjamfmnlhiolkaa
