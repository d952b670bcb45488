/- Image: sizes and counts. -/
import Derived.Test.YtpofbjmmlommoaaVJ
import Derived.Test.YtpofbjmmlommoaaJ
set_option linter.unusedVariables false
set_option linter.unusedSimpArgs false
namespace Go.Proofs.Ytpofbjmmlommoaa
open Go Av
set_option maxRecDepth 20000
/-- A version and sizes are right. -/
def sizB (v pg pk : Int) : Bool := decide ((1 ≤ v ∧ v ≤ 65535) ∧ (1 ≤ pk ∧ pk ≤ 96) ∧ pk ≤ pg ∧ pg ≤ 4096 ∧ pg % pk = 0 ∧ pg ≤ 64 * pk)
theorem quo_64 {pg pk : Int} (h : 1 ≤ pk) : pg / pk ≤ 64 ↔ pg < 65 * pk := by
  have := Int.ediv_lt_iff_lt_mul (a := pg) (b := 65) (c := pk) (by omega)
  omega
theorem mod_64 {pg pk : Int} (h : 1 ≤ pk) (h0 : pg % pk = 0) : pg < 65 * pk ↔ pg ≤ 64 * pk := by
  have e := Int.mul_ediv_add_emod pg pk
  rw [h0, Int.add_zero] at e
  constructor
  · intro h1
    have h2 : pg / pk < 65 := by rw [Int.ediv_lt_iff_lt_mul (by omega)]; exact h1
    have := Int.mul_le_mul_of_nonneg_left (show pg / pk ≤ 64 by omega) (show 0 ≤ pk by omega)
    omega
  · intro h1; omega
set_option maxHeartbeats 2000000 in
theorem ac_sizes (v pg pk : Int) : ACalls Try.prog 33 [.int .i64 v, .int .i64 pg, .int .i64 pk] [] (.bool (sizB v pg pk)) [] := by
  unfold sizB
  obtain ⟨mm, hm⟩ : ∃ mm, pg % pk = mm := ⟨_, rfl⟩
  obtain ⟨qq, hq⟩ : ∃ qq, pg / pk = qq := ⟨_, rfl⟩
  have hqq : 1 ≤ pk → mm = 0 → (qq ≤ 64 ↔ pg ≤ 64 * pk) := fun h1 h2 => by rw [← hq, quo_64 h1]; exact mod_64 h1 (by rw [hm, h2])
  refine acalls_pure Try.func33 rfl rfl rfl ?_
  repeat' first
    | refine st (v := .int .i64 mm) (h := by (rw [← hm]; apply ok_rem_pos; rfl; rfl; omega)) ?_
    | refine sd (v := .int .i64 mm) (h := by (rw [← hm]; apply ok_rem_pos; rfl; rfl; omega)) ?_
    | refine st ?_
    | refine stm ?_
    | refine run_want rfl rfl ?_
    | refine run_unwant rfl rfl ?_
    | refine run_undef rfl rfl ?_
    | refine run_guard1t rfl rfl (by omega) ?_
    | refine run_guard1f rfl rfl (by omega) ?_
    | refine run_guard0t rfl rfl (by omega) ?_
    | refine run_guard0f rfl rfl (by omega) ?_
    | refine run_guard1 rfl rfl (fun h1 => ?_) (fun h1 => ?_)
    | refine run_guard0 rfl rfl (fun h1 => ?_) (fun h1 => ?_)
    | refine run_guard rfl rfl (fun h1 => ?_) (fun h1 => ?_)
    | refine run_nil ?_
    | refine aw_seq ?_
    | refine aw_region (by kernel_rfl) (Nat.le_of_ble_eq_true rfl) ?_
    | refine aw_block ?_
    | refine aw_cond_t rfl ?_
    | refine aw_cond_f rfl ?_
    | refine aw_cond_tp rfl (by omega) ?_
    | refine aw_cond_fp rfl (by omega) ?_
    | refine aw_cond1 rfl (fun h1 => ?_) (fun h1 => ?_)
    | refine aw_cond rfl (fun h1 => ?_) (fun h1 => ?_)
    | refine aw_skip ?_
    | refine aw_exit ?_
    | refine aw_ret ?_
    | refine pp_ret ?_
    | refine pp_normal ?_
  all_goals rw [hm]
  all_goals clear hm hq
  all_goals first
    | rfl
    | (exfalso; omega)
    | (show Value.bool _ = Value.bool _; congr 1; first | exact decide_eq_false (by omega) | exact decide_eq_true (by omega) | exact (decide_eq_false (by omega)).symm | exact (decide_eq_true (by omega)).symm | exact decide_eq_decide.2 (by omega))
    | (show Value.bool _ = Value.bool _; congr 1; simp only [decide_eq_true_eq, decide_eq_false_iff_not, Bool.not_eq_true, Bool.not_eq_false] at *; first | exact decide_eq_false (by omega) | exact decide_eq_true (by omega) | exact (decide_eq_false (by omega)).symm | exact (decide_eq_true (by omega)).symm | exact decide_eq_decide.2 (by omega))
set_option maxHeartbeats 2000000 in
theorem ac_rsizes (v pg pk : Int) : ACalls Try.prog 37 [.int .i64 v, .int .i64 pg, .int .i64 pk] [] (.bool (sizB v pg pk)) [] := by
  unfold sizB
  obtain ⟨mm, hm⟩ : ∃ mm, pg % pk = mm := ⟨_, rfl⟩
  obtain ⟨qq, hq⟩ : ∃ qq, pg / pk = qq := ⟨_, rfl⟩
  have hqq : 1 ≤ pk → mm = 0 → (qq ≤ 64 ↔ pg ≤ 64 * pk) := fun h1 h2 => by rw [← hq, quo_64 h1]; exact mod_64 h1 (by rw [hm, h2])
  refine acalls_pure Try.func37 rfl rfl rfl ?_
  repeat' first
    | refine st (v := .int .i64 mm) (h := by (rw [← hm]; apply ok_rem_pos; rfl; rfl; omega)) ?_
    | refine sd (v := .int .i64 mm) (h := by (rw [← hm]; apply ok_rem_pos; rfl; rfl; omega)) ?_
    | refine st (v := .int .i64 qq) (h := by (rw [← hq]; apply ok_quo64; rfl; rfl; omega)) ?_
    | refine sd (v := .int .i64 qq) (h := by (rw [← hq]; apply ok_quo64; rfl; rfl; omega)) ?_
    | refine st ?_
    | refine stm ?_
    | refine run_want rfl rfl ?_
    | refine run_unwant rfl rfl ?_
    | refine run_undef rfl rfl ?_
    | refine run_guard1t rfl rfl (by omega) ?_
    | refine run_guard1f rfl rfl (by omega) ?_
    | refine run_guard0t rfl rfl (by omega) ?_
    | refine run_guard0f rfl rfl (by omega) ?_
    | refine run_guard1 rfl rfl (fun h1 => ?_) (fun h1 => ?_)
    | refine run_guard0 rfl rfl (fun h1 => ?_) (fun h1 => ?_)
    | refine run_guard rfl rfl (fun h1 => ?_) (fun h1 => ?_)
    | refine run_nil ?_
    | refine aw_seq ?_
    | refine aw_region (by kernel_rfl) (Nat.le_of_ble_eq_true rfl) ?_
    | refine aw_block ?_
    | refine aw_cond_t rfl ?_
    | refine aw_cond_f rfl ?_
    | refine aw_cond_tp rfl (by omega) ?_
    | refine aw_cond_fp rfl (by omega) ?_
    | refine aw_cond1 rfl (fun h1 => ?_) (fun h1 => ?_)
    | refine aw_cond rfl (fun h1 => ?_) (fun h1 => ?_)
    | refine aw_skip ?_
    | refine aw_exit ?_
    | refine aw_ret ?_
    | refine pp_ret ?_
    | refine pp_normal ?_
  all_goals rw [hm]
  all_goals clear hm hq
  all_goals first
    | rfl
    | (exfalso; omega)
    | (show Value.bool _ = Value.bool _; congr 1; first | exact decide_eq_false (by omega) | exact decide_eq_true (by omega) | exact (decide_eq_false (by omega)).symm | exact (decide_eq_true (by omega)).symm | exact decide_eq_decide.2 (by omega))
    | (show Value.bool _ = Value.bool _; congr 1; simp only [decide_eq_true_eq, decide_eq_false_iff_not, Bool.not_eq_true, Bool.not_eq_false] at *; first | exact decide_eq_false (by omega) | exact decide_eq_true (by omega) | exact (decide_eq_false (by omega)).symm | exact (decide_eq_true (by omega)).symm | exact decide_eq_decide.2 (by omega))
theorem ac_count (n z x : Int) (hn : 0 ≤ n ∧ n ≤ 1000000) (hz : 1 ≤ z ∧ z ≤ 1000000) (hx : (n + z - 1) / z = x) : ACalls Try.prog 34 [.int .i64 n, .int .i64 z] [] (.int .i64 x) [] := by
  refine acalls_pure Try.func34 rfl rfl rfl ?_
  repeat' first
    | refine st (v := .int .i64 x) (h := by (rw [← hx]; apply ok_quo64; rfl; rfl; omega)) ?_
    | refine sd (v := .int .i64 x) (h := by (rw [← hx]; apply ok_quo64; rfl; rfl; omega)) ?_
    | refine st ?_
    | refine stm ?_
    | refine run_want rfl rfl ?_
    | refine run_unwant rfl rfl ?_
    | refine run_undef rfl rfl ?_
    | refine run_guard1t rfl rfl (by omega) ?_
    | refine run_guard1f rfl rfl (by omega) ?_
    | refine run_guard0t rfl rfl (by omega) ?_
    | refine run_guard0f rfl rfl (by omega) ?_
    | refine run_guard1 rfl rfl (fun h1 => ?_) (fun h1 => ?_)
    | refine run_guard0 rfl rfl (fun h1 => ?_) (fun h1 => ?_)
    | refine run_guard rfl rfl (fun h1 => ?_) (fun h1 => ?_)
    | refine run_nil ?_
    | refine aw_seq ?_
    | refine aw_region (by kernel_rfl) (Nat.le_of_ble_eq_true rfl) ?_
    | refine aw_block ?_
    | refine aw_cond_t rfl ?_
    | refine aw_cond_f rfl ?_
    | refine aw_cond_tp rfl (by omega) ?_
    | refine aw_cond_fp rfl (by omega) ?_
    | refine aw_cond1 rfl (fun h1 => ?_) (fun h1 => ?_)
    | refine aw_cond rfl (fun h1 => ?_) (fun h1 => ?_)
    | refine aw_skip ?_
    | refine aw_exit ?_
    | refine aw_ret ?_
    | refine pp_ret ?_
    | refine pp_normal ?_
  all_goals first | rfl | (exfalso; omega)
theorem ac_parts (n z x : Int) (hn : 0 ≤ n ∧ n ≤ 1000000) (hz : 1 ≤ z ∧ z ≤ 1000000) (hx : (n + z - 1) / z = x) : ACalls Try.prog 38 [.int .i64 n, .int .i64 z] [] (.int .i64 x) [] := by
  refine acalls_pure Try.func38 rfl rfl rfl ?_
  repeat' first
    | refine st (v := .int .i64 x) (h := by (rw [← hx]; apply ok_quo64; rfl; rfl; omega)) ?_
    | refine sd (v := .int .i64 x) (h := by (rw [← hx]; apply ok_quo64; rfl; rfl; omega)) ?_
    | refine st ?_
    | refine stm ?_
    | refine run_want rfl rfl ?_
    | refine run_unwant rfl rfl ?_
    | refine run_undef rfl rfl ?_
    | refine run_guard1t rfl rfl (by omega) ?_
    | refine run_guard1f rfl rfl (by omega) ?_
    | refine run_guard0t rfl rfl (by omega) ?_
    | refine run_guard0f rfl rfl (by omega) ?_
    | refine run_guard1 rfl rfl (fun h1 => ?_) (fun h1 => ?_)
    | refine run_guard0 rfl rfl (fun h1 => ?_) (fun h1 => ?_)
    | refine run_guard rfl rfl (fun h1 => ?_) (fun h1 => ?_)
    | refine run_nil ?_
    | refine aw_seq ?_
    | refine aw_region (by kernel_rfl) (Nat.le_of_ble_eq_true rfl) ?_
    | refine aw_block ?_
    | refine aw_cond_t rfl ?_
    | refine aw_cond_f rfl ?_
    | refine aw_cond_tp rfl (by omega) ?_
    | refine aw_cond_fp rfl (by omega) ?_
    | refine aw_cond1 rfl (fun h1 => ?_) (fun h1 => ?_)
    | refine aw_cond rfl (fun h1 => ?_) (fun h1 => ?_)
    | refine aw_skip ?_
    | refine aw_exit ?_
    | refine aw_ret ?_
    | refine pp_ret ?_
    | refine pp_normal ?_
  all_goals first | rfl | (exfalso; omega)
end Go.Proofs.Ytpofbjmmlommoaa
