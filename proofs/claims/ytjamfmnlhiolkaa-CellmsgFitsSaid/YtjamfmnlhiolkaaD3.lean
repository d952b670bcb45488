/- Bits: a field is read. -/
import Derived.Test.YtjamfmnlhiolkaaD2
set_option linter.unusedVariables false
set_option linter.unusedSimpArgs false
namespace Go.Proofs.Ytjamfmnlhiolkaa
open Go Av
set_option maxRecDepth 20000
/-- What a reader gives for a field; where it is then; its error. -/
def fieldR (d : ByteArray) (a : Nat) (e : Int) (right : Bool) (w : Int) : Int × Nat × Int :=
  if e ≠ 0 then (0, a, e) else if right = false then (0, a, 1) else if (8 * d.size : Int) - a < w then (0, a, 9) else (rdN d a w.toNat, a + w.toNat, 0)
set_option maxHeartbeats 1000000 in
theorem ac_fieldR (right : Bool) (w e e' v : Int) (a a' : Nat) (d : ByteArray) (hst : fieldR d a e right w = (v, a', e')) (ha : a ≤ 8 * d.size) (hd : d.size ≤ 1000000) (hw : right = true → 1 ≤ w ∧ w ≤ 63) :
    ACalls Try.prog 64 [.pointer (some ⟨0, 0, none⟩), .bool right, .int .i64 w] [some ⟨[.string d, .int .i64 (a : Int), .int .i64 e], true, 1⟩] (.int .u64 v) [some ⟨[.string d, .int .i64 (a' : Int), .int .i64 e'], true, 1⟩] := by
  unfold fieldR at hst
  by_cases he : e = 0
  · subst he
    rw [if_neg (by simp)] at hst
    cases right
    · rw [if_pos rfl] at hst
      simp only [Prod.mk.injEq] at hst
      obtain ⟨rfl, rfl, rfl⟩ := hst
      have HX := ac_rfail a 0 1 d
      refine acalls_of_aw Try.func64 rfl rfl ?_
      repeat' first
        | refine st ?_
        | refine stMW [0] HX ?_
        | refine stm ?_
        | refine run_want rfl rfl ?_
        | refine run_unwant rfl rfl ?_
        | refine run_undef rfl rfl ?_
        | refine run_guard1t rfl rfl (by omega) ?_
        | refine run_guard1f rfl rfl (by omega) ?_
        | refine run_guard0t rfl rfl (by omega) ?_
        | refine run_guard0f rfl rfl (by omega) ?_
        | refine run_guard1 rfl rfl (fun h1 => ?_) (fun h1 => ?_)
        | refine run_guard0 rfl rfl (fun h1 => ?_) (fun h1 => ?_)
        | refine run_guard rfl rfl (fun h1 => ?_) (fun h1 => ?_)
        | refine run_nil ?_
        | refine aw_seq ?_
        | refine aw_region (by kernel_rfl) (Nat.le_of_ble_eq_true rfl) ?_
        | refine aw_block ?_
        | refine aw_cond_t rfl ?_
        | refine aw_cond_f rfl ?_
        | refine aw_cond_tp rfl (by omega) ?_
        | refine aw_cond_fp rfl (by omega) ?_
        | refine aw_cond1 rfl (fun h1 => ?_) (fun h1 => ?_)
        | refine aw_cond rfl (fun h1 => ?_) (fun h1 => ?_)
        | refine aw_skip ?_
        | refine aw_exit ?_
        | refine aw_ret ?_
        | refine pp_ret ?_
        | refine pp_normal ?_
      all_goals first | exact pm_ret _ (renumD [0]) rfl | (exfalso; omega)
    · rw [if_neg (by simp)] at hst
      have hw := hw rfl
      have HL := ac_left a d (by omega) hd
      by_cases hs : (8 * d.size : Int) - a < w
      · rw [if_pos hs] at hst
        simp only [Prod.mk.injEq] at hst
        obtain ⟨rfl, rfl, rfl⟩ := hst
        have HX := ac_rfail a 0 9 d
        refine acalls_of_aw Try.func64 rfl rfl ?_
        repeat' first
          | refine st ?_
          | refine stMW [0] HX ?_
          | refine stRW [0] HL ?_
          | refine sdRW [0] HL ?_
          | refine stm ?_
          | refine run_want rfl rfl ?_
          | refine run_unwant rfl rfl ?_
          | refine run_undef rfl rfl ?_
          | refine run_guard1t rfl rfl (by omega) ?_
          | refine run_guard1f rfl rfl (by omega) ?_
          | refine run_guard0t rfl rfl (by omega) ?_
          | refine run_guard0f rfl rfl (by omega) ?_
          | refine run_guard1 rfl rfl (fun h1 => ?_) (fun h1 => ?_)
          | refine run_guard0 rfl rfl (fun h1 => ?_) (fun h1 => ?_)
          | refine run_guard rfl rfl (fun h1 => ?_) (fun h1 => ?_)
          | refine run_nil ?_
          | refine aw_seq ?_
          | refine aw_region (by kernel_rfl) (Nat.le_of_ble_eq_true rfl) ?_
          | refine aw_block ?_
          | refine aw_cond_t rfl ?_
          | refine aw_cond_f rfl ?_
          | refine aw_cond_tp rfl (by omega) ?_
          | refine aw_cond_fp rfl (by omega) ?_
          | refine aw_cond1 rfl (fun h1 => ?_) (fun h1 => ?_)
          | refine aw_cond rfl (fun h1 => ?_) (fun h1 => ?_)
          | refine aw_skip ?_
          | refine aw_exit ?_
          | refine aw_ret ?_
          | refine pp_ret ?_
          | refine pp_normal ?_
        all_goals first | exact pm_ret _ (renumD [0]) rfl | (exfalso; omega)
      · rw [if_neg hs] at hst
        simp only [Prod.mk.injEq] at hst
        obtain ⟨rfl, rfl, rfl⟩ := hst
        have HX := ac_get w.toNat a d 0 (by omega) (by omega) hd
        rw [show ((w.toNat : Nat) : Int) = w by omega] at HX
        refine acalls_of_aw Try.func64 rfl rfl ?_
        repeat' first
          | refine st ?_
          | refine stMW [0] HX ?_
          | refine stRW [0] HL ?_
          | refine sdRW [0] HL ?_
          | refine stm ?_
          | refine run_want rfl rfl ?_
          | refine run_unwant rfl rfl ?_
          | refine run_undef rfl rfl ?_
          | refine run_guard1t rfl rfl (by omega) ?_
          | refine run_guard1f rfl rfl (by omega) ?_
          | refine run_guard0t rfl rfl (by omega) ?_
          | refine run_guard0f rfl rfl (by omega) ?_
          | refine run_guard1 rfl rfl (fun h1 => ?_) (fun h1 => ?_)
          | refine run_guard0 rfl rfl (fun h1 => ?_) (fun h1 => ?_)
          | refine run_guard rfl rfl (fun h1 => ?_) (fun h1 => ?_)
          | refine run_nil ?_
          | refine aw_seq ?_
          | refine aw_region (by kernel_rfl) (Nat.le_of_ble_eq_true rfl) ?_
          | refine aw_block ?_
          | refine aw_cond_t rfl ?_
          | refine aw_cond_f rfl ?_
          | refine aw_cond_tp rfl (by omega) ?_
          | refine aw_cond_fp rfl (by omega) ?_
          | refine aw_cond1 rfl (fun h1 => ?_) (fun h1 => ?_)
          | refine aw_cond rfl (fun h1 => ?_) (fun h1 => ?_)
          | refine aw_skip ?_
          | refine aw_exit ?_
          | refine aw_ret ?_
          | refine pp_ret ?_
          | refine pp_normal ?_
        all_goals first | exact pm_ret _ (renumD [0]) rfl | (exfalso; omega)
  · rw [if_pos he] at hst
    simp only [Prod.mk.injEq] at hst
    obtain ⟨rfl, rfl, rfl⟩ := hst
    refine acalls_of_aw Try.func64 rfl rfl ?_
    repeat' first
      | refine st ?_
      | refine stm ?_
      | refine run_want rfl rfl ?_
      | refine run_unwant rfl rfl ?_
      | refine run_undef rfl rfl ?_
      | refine run_guard1t rfl rfl (by omega) ?_
      | refine run_guard1f rfl rfl (by omega) ?_
      | refine run_guard0t rfl rfl (by omega) ?_
      | refine run_guard0f rfl rfl (by omega) ?_
      | refine run_guard1 rfl rfl (fun h1 => ?_) (fun h1 => ?_)
      | refine run_guard0 rfl rfl (fun h1 => ?_) (fun h1 => ?_)
      | refine run_guard rfl rfl (fun h1 => ?_) (fun h1 => ?_)
      | refine run_nil ?_
      | refine aw_seq ?_
      | refine aw_region (by kernel_rfl) (Nat.le_of_ble_eq_true rfl) ?_
      | refine aw_block ?_
      | refine aw_cond_t rfl ?_
      | refine aw_cond_f rfl ?_
      | refine aw_cond_tp rfl (by omega) ?_
      | refine aw_cond_fp rfl (by omega) ?_
      | refine aw_cond1 rfl (fun h1 => ?_) (fun h1 => ?_)
      | refine aw_cond rfl (fun h1 => ?_) (fun h1 => ?_)
      | refine aw_skip ?_
      | refine aw_exit ?_
      | refine aw_ret ?_
      | refine pp_ret ?_
      | refine pp_normal ?_
    all_goals first | exact pm_ret _ (renumD [0]) rfl | (exfalso; omega)
end Go.Proofs.Ytjamfmnlhiolkaa
