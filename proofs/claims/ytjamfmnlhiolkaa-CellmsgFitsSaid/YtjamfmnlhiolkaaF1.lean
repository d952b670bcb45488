/- Messages: the table of kinds. -/
import Derived.Test.YtjamfmnlhiolkaaVH
import Derived.Test.YtjamfmnlhiolkaaJ
set_option linter.unusedVariables false
set_option linter.unusedSimpArgs false
namespace Go.Proofs.Ytjamfmnlhiolkaa
open Go Av
set_option maxRecDepth 20000
theorem ac_row1 (k n c cnt : Int) (r : Bool) (s o : Nat) : ACalls Try.prog 71 [.agg #[.int .i64 k, .bool r, .int .i64 n, .int .i64 c, .int .i64 cnt, .slice (some ⟨0, 0, none⟩) s s, .slice (some ⟨1, 0, none⟩) o o]] [none, none] (.bool (decide (cnt = 0 ∧ s = 0 ∧ o = 0))) [none, none] := by
  refine acalls_law Try.func71 rfl rfl rfl ?_
  repeat' first
    | refine st ?_
    | refine stm ?_
    | refine run_want rfl rfl ?_
    | refine run_unwant rfl rfl ?_
    | refine run_undef rfl rfl ?_
    | refine run_guard1t rfl rfl (by omega) ?_
    | refine run_guard1f rfl rfl (by omega) ?_
    | refine run_guard0t rfl rfl (by omega) ?_
    | refine run_guard0f rfl rfl (by omega) ?_
    | refine run_guard1 rfl rfl (fun h1 => ?_) (fun h1 => ?_)
    | refine run_guard0 rfl rfl (fun h1 => ?_) (fun h1 => ?_)
    | refine run_guard rfl rfl (fun h1 => ?_) (fun h1 => ?_)
    | refine run_nil ?_
    | refine aw_seq ?_
    | refine aw_region (by kernel_rfl) (Nat.le_of_ble_eq_true rfl) ?_
    | refine aw_block ?_
    | refine aw_cond_t rfl ?_
    | refine aw_cond_f rfl ?_
    | refine aw_cond_tp rfl (by omega) ?_
    | refine aw_cond_fp rfl (by omega) ?_
    | refine aw_cond1 rfl (fun h1 => ?_) (fun h1 => ?_)
    | refine aw_cond rfl (fun h1 => ?_) (fun h1 => ?_)
    | refine aw_skip ?_
    | refine aw_exit ?_
    | refine aw_ret ?_
    | refine pp_ret ?_
    | refine pp_normal ?_
  all_goals first
    | rfl
    | (exfalso; omega)
    | (show Value.bool _ = Value.bool _; congr 1; first | exact (decide_eq_false (by omega)).symm | exact (decide_eq_true (by omega)).symm | exact decide_eq_decide.2 (by omega))
theorem ac_row2 (k n c cnt : Int) (r : Bool) (s o : Nat) : ACalls Try.prog 72 [.agg #[.int .i64 k, .bool r, .int .i64 n, .int .i64 c, .int .i64 cnt, .slice (some ⟨0, 0, none⟩) s s, .slice (some ⟨1, 0, none⟩) o o]] [none, none] (.bool (decide (s = 0 ∧ 1 ≤ o ∧ cnt = o))) [none, none] := by
  refine acalls_law Try.func72 rfl rfl rfl ?_
  repeat' first
    | refine st ?_
    | refine stm ?_
    | refine run_want rfl rfl ?_
    | refine run_unwant rfl rfl ?_
    | refine run_undef rfl rfl ?_
    | refine run_guard1t rfl rfl (by omega) ?_
    | refine run_guard1f rfl rfl (by omega) ?_
    | refine run_guard0t rfl rfl (by omega) ?_
    | refine run_guard0f rfl rfl (by omega) ?_
    | refine run_guard1 rfl rfl (fun h1 => ?_) (fun h1 => ?_)
    | refine run_guard0 rfl rfl (fun h1 => ?_) (fun h1 => ?_)
    | refine run_guard rfl rfl (fun h1 => ?_) (fun h1 => ?_)
    | refine run_nil ?_
    | refine aw_seq ?_
    | refine aw_region (by kernel_rfl) (Nat.le_of_ble_eq_true rfl) ?_
    | refine aw_block ?_
    | refine aw_cond_t rfl ?_
    | refine aw_cond_f rfl ?_
    | refine aw_cond_tp rfl (by omega) ?_
    | refine aw_cond_fp rfl (by omega) ?_
    | refine aw_cond1 rfl (fun h1 => ?_) (fun h1 => ?_)
    | refine aw_cond rfl (fun h1 => ?_) (fun h1 => ?_)
    | refine aw_skip ?_
    | refine aw_exit ?_
    | refine aw_ret ?_
    | refine pp_ret ?_
    | refine pp_normal ?_
  all_goals first
    | rfl
    | (exfalso; omega)
    | (show Value.bool _ = Value.bool _; congr 1; first | exact (decide_eq_false (by omega)).symm | exact (decide_eq_true (by omega)).symm | exact decide_eq_decide.2 (by omega))
theorem ac_row3 (k n c cnt : Int) (r : Bool) (s o : Nat) : ACalls Try.prog 73 [.agg #[.int .i64 k, .bool r, .int .i64 n, .int .i64 c, .int .i64 cnt, .slice (some ⟨0, 0, none⟩) s s, .slice (some ⟨1, 0, none⟩) o o]] [none, none] (.bool (decide (1 ≤ cnt ∧ cnt ≤ 8 ∧ cnt ≤ s ∧ o = 0))) [none, none] := by
  refine acalls_law Try.func73 rfl rfl rfl ?_
  repeat' first
    | refine st ?_
    | refine stm ?_
    | refine run_want rfl rfl ?_
    | refine run_unwant rfl rfl ?_
    | refine run_undef rfl rfl ?_
    | refine run_guard1t rfl rfl (by omega) ?_
    | refine run_guard1f rfl rfl (by omega) ?_
    | refine run_guard0t rfl rfl (by omega) ?_
    | refine run_guard0f rfl rfl (by omega) ?_
    | refine run_guard1 rfl rfl (fun h1 => ?_) (fun h1 => ?_)
    | refine run_guard0 rfl rfl (fun h1 => ?_) (fun h1 => ?_)
    | refine run_guard rfl rfl (fun h1 => ?_) (fun h1 => ?_)
    | refine run_nil ?_
    | refine aw_seq ?_
    | refine aw_region (by kernel_rfl) (Nat.le_of_ble_eq_true rfl) ?_
    | refine aw_block ?_
    | refine aw_cond_t rfl ?_
    | refine aw_cond_f rfl ?_
    | refine aw_cond_tp rfl (by omega) ?_
    | refine aw_cond_fp rfl (by omega) ?_
    | refine aw_cond1 rfl (fun h1 => ?_) (fun h1 => ?_)
    | refine aw_cond rfl (fun h1 => ?_) (fun h1 => ?_)
    | refine aw_skip ?_
    | refine aw_exit ?_
    | refine aw_ret ?_
    | refine pp_ret ?_
    | refine pp_normal ?_
  all_goals first
    | rfl
    | (exfalso; omega)
    | (show Value.bool _ = Value.bool _; congr 1; first | exact (decide_eq_false (by omega)).symm | exact (decide_eq_true (by omega)).symm | exact decide_eq_decide.2 (by omega))
theorem ac_row4 (k n c cnt : Int) (r : Bool) (s o : Nat) : ACalls Try.prog 74 [.agg #[.int .i64 k, .bool r, .int .i64 n, .int .i64 c, .int .i64 cnt, .slice (some ⟨0, 0, none⟩) s s, .slice (some ⟨1, 0, none⟩) o o]] [none, none] (.bool (decide (1 ≤ s ∧ cnt = s ∧ o = 0))) [none, none] := by
  refine acalls_law Try.func74 rfl rfl rfl ?_
  repeat' first
    | refine st ?_
    | refine stm ?_
    | refine run_want rfl rfl ?_
    | refine run_unwant rfl rfl ?_
    | refine run_undef rfl rfl ?_
    | refine run_guard1t rfl rfl (by omega) ?_
    | refine run_guard1f rfl rfl (by omega) ?_
    | refine run_guard0t rfl rfl (by omega) ?_
    | refine run_guard0f rfl rfl (by omega) ?_
    | refine run_guard1 rfl rfl (fun h1 => ?_) (fun h1 => ?_)
    | refine run_guard0 rfl rfl (fun h1 => ?_) (fun h1 => ?_)
    | refine run_guard rfl rfl (fun h1 => ?_) (fun h1 => ?_)
    | refine run_nil ?_
    | refine aw_seq ?_
    | refine aw_region (by kernel_rfl) (Nat.le_of_ble_eq_true rfl) ?_
    | refine aw_block ?_
    | refine aw_cond_t rfl ?_
    | refine aw_cond_f rfl ?_
    | refine aw_cond_tp rfl (by omega) ?_
    | refine aw_cond_fp rfl (by omega) ?_
    | refine aw_cond1 rfl (fun h1 => ?_) (fun h1 => ?_)
    | refine aw_cond rfl (fun h1 => ?_) (fun h1 => ?_)
    | refine aw_skip ?_
    | refine aw_exit ?_
    | refine aw_ret ?_
    | refine pp_ret ?_
    | refine pp_normal ?_
  all_goals first
    | rfl
    | (exfalso; omega)
    | (show Value.bool _ = Value.bool _; congr 1; first | exact (decide_eq_false (by omega)).symm | exact (decide_eq_true (by omega)).symm | exact decide_eq_decide.2 (by omega))
theorem ac_row5 (k n c cnt : Int) (r : Bool) (s o : Nat) : ACalls Try.prog 75 [.agg #[.int .i64 k, .bool r, .int .i64 n, .int .i64 c, .int .i64 cnt, .slice (some ⟨0, 0, none⟩) s s, .slice (some ⟨1, 0, none⟩) o o]] [none, none] (.bool (decide (1 ≤ o ∧ cnt = o ∧ cnt ≤ s))) [none, none] := by
  refine acalls_law Try.func75 rfl rfl rfl ?_
  repeat' first
    | refine st ?_
    | refine stm ?_
    | refine run_want rfl rfl ?_
    | refine run_unwant rfl rfl ?_
    | refine run_undef rfl rfl ?_
    | refine run_guard1t rfl rfl (by omega) ?_
    | refine run_guard1f rfl rfl (by omega) ?_
    | refine run_guard0t rfl rfl (by omega) ?_
    | refine run_guard0f rfl rfl (by omega) ?_
    | refine run_guard1 rfl rfl (fun h1 => ?_) (fun h1 => ?_)
    | refine run_guard0 rfl rfl (fun h1 => ?_) (fun h1 => ?_)
    | refine run_guard rfl rfl (fun h1 => ?_) (fun h1 => ?_)
    | refine run_nil ?_
    | refine aw_seq ?_
    | refine aw_region (by kernel_rfl) (Nat.le_of_ble_eq_true rfl) ?_
    | refine aw_block ?_
    | refine aw_cond_t rfl ?_
    | refine aw_cond_f rfl ?_
    | refine aw_cond_tp rfl (by omega) ?_
    | refine aw_cond_fp rfl (by omega) ?_
    | refine aw_cond1 rfl (fun h1 => ?_) (fun h1 => ?_)
    | refine aw_cond rfl (fun h1 => ?_) (fun h1 => ?_)
    | refine aw_skip ?_
    | refine aw_exit ?_
    | refine aw_ret ?_
    | refine pp_ret ?_
    | refine pp_normal ?_
  all_goals first
    | rfl
    | (exfalso; omega)
    | (show Value.bool _ = Value.bool _; congr 1; first | exact (decide_eq_false (by omega)).symm | exact (decide_eq_true (by omega)).symm | exact decide_eq_decide.2 (by omega))
theorem ac_row6 (k n c cnt : Int) (r : Bool) (s o : Nat) : ACalls Try.prog 76 [.agg #[.int .i64 k, .bool r, .int .i64 n, .int .i64 c, .int .i64 cnt, .slice (some ⟨0, 0, none⟩) s s, .slice (some ⟨1, 0, none⟩) o o]] [none, none] (.bool (decide (1 ≤ o ∧ cnt = o ∧ s = o))) [none, none] := by
  refine acalls_law Try.func76 rfl rfl rfl ?_
  repeat' first
    | refine st ?_
    | refine stm ?_
    | refine run_want rfl rfl ?_
    | refine run_unwant rfl rfl ?_
    | refine run_undef rfl rfl ?_
    | refine run_guard1t rfl rfl (by omega) ?_
    | refine run_guard1f rfl rfl (by omega) ?_
    | refine run_guard0t rfl rfl (by omega) ?_
    | refine run_guard0f rfl rfl (by omega) ?_
    | refine run_guard1 rfl rfl (fun h1 => ?_) (fun h1 => ?_)
    | refine run_guard0 rfl rfl (fun h1 => ?_) (fun h1 => ?_)
    | refine run_guard rfl rfl (fun h1 => ?_) (fun h1 => ?_)
    | refine run_nil ?_
    | refine aw_seq ?_
    | refine aw_region (by kernel_rfl) (Nat.le_of_ble_eq_true rfl) ?_
    | refine aw_block ?_
    | refine aw_cond_t rfl ?_
    | refine aw_cond_f rfl ?_
    | refine aw_cond_tp rfl (by omega) ?_
    | refine aw_cond_fp rfl (by omega) ?_
    | refine aw_cond1 rfl (fun h1 => ?_) (fun h1 => ?_)
    | refine aw_cond rfl (fun h1 => ?_) (fun h1 => ?_)
    | refine aw_skip ?_
    | refine aw_exit ?_
    | refine aw_ret ?_
    | refine pp_ret ?_
    | refine pp_normal ?_
  all_goals first
    | rfl
    | (exfalso; omega)
    | (show Value.bool _ = Value.bool _; congr 1; first | exact (decide_eq_false (by omega)).symm | exact (decide_eq_true (by omega)).symm | exact decide_eq_decide.2 (by omega))
theorem ac_row7 (k n c cnt : Int) (r : Bool) (s o : Nat) : ACalls Try.prog 77 [.agg #[.int .i64 k, .bool r, .int .i64 n, .int .i64 c, .int .i64 cnt, .slice (some ⟨0, 0, none⟩) s s, .slice (some ⟨1, 0, none⟩) o o]] [none, none] (.bool (decide (s = 0 ∧ o = 0))) [none, none] := by
  refine acalls_law Try.func77 rfl rfl rfl ?_
  repeat' first
    | refine st ?_
    | refine stm ?_
    | refine run_want rfl rfl ?_
    | refine run_unwant rfl rfl ?_
    | refine run_undef rfl rfl ?_
    | refine run_guard1t rfl rfl (by omega) ?_
    | refine run_guard1f rfl rfl (by omega) ?_
    | refine run_guard0t rfl rfl (by omega) ?_
    | refine run_guard0f rfl rfl (by omega) ?_
    | refine run_guard1 rfl rfl (fun h1 => ?_) (fun h1 => ?_)
    | refine run_guard0 rfl rfl (fun h1 => ?_) (fun h1 => ?_)
    | refine run_guard rfl rfl (fun h1 => ?_) (fun h1 => ?_)
    | refine run_nil ?_
    | refine aw_seq ?_
    | refine aw_region (by kernel_rfl) (Nat.le_of_ble_eq_true rfl) ?_
    | refine aw_block ?_
    | refine aw_cond_t rfl ?_
    | refine aw_cond_f rfl ?_
    | refine aw_cond_tp rfl (by omega) ?_
    | refine aw_cond_fp rfl (by omega) ?_
    | refine aw_cond1 rfl (fun h1 => ?_) (fun h1 => ?_)
    | refine aw_cond rfl (fun h1 => ?_) (fun h1 => ?_)
    | refine aw_skip ?_
    | refine aw_exit ?_
    | refine aw_ret ?_
    | refine pp_ret ?_
    | refine pp_normal ?_
  all_goals first
    | rfl
    | (exfalso; omega)
    | (show Value.bool _ = Value.bool _; congr 1; first | exact (decide_eq_false (by omega)).symm | exact (decide_eq_true (by omega)).symm | exact decide_eq_decide.2 (by omega))
theorem ac_row8 (k n c cnt : Int) (r : Bool) (s o : Nat) : ACalls Try.prog 78 [.agg #[.int .i64 k, .bool r, .int .i64 n, .int .i64 c, .int .i64 cnt, .slice (some ⟨0, 0, none⟩) s s, .slice (some ⟨1, 0, none⟩) o o]] [none, none] (.bool (decide ((s : Int) = min 8 cnt ∧ o = 0))) [none, none] := by
  refine acalls_law Try.func78 rfl rfl rfl ?_
  repeat' first
    | refine st ?_
    | refine stm ?_
    | refine run_want rfl rfl ?_
    | refine run_unwant rfl rfl ?_
    | refine run_undef rfl rfl ?_
    | refine run_guard1t rfl rfl (by omega) ?_
    | refine run_guard1f rfl rfl (by omega) ?_
    | refine run_guard0t rfl rfl (by omega) ?_
    | refine run_guard0f rfl rfl (by omega) ?_
    | refine run_guard1 rfl rfl (fun h1 => ?_) (fun h1 => ?_)
    | refine run_guard0 rfl rfl (fun h1 => ?_) (fun h1 => ?_)
    | refine run_guard rfl rfl (fun h1 => ?_) (fun h1 => ?_)
    | refine run_nil ?_
    | refine aw_seq ?_
    | refine aw_region (by kernel_rfl) (Nat.le_of_ble_eq_true rfl) ?_
    | refine aw_block ?_
    | refine aw_cond_t rfl ?_
    | refine aw_cond_f rfl ?_
    | refine aw_cond_tp rfl (by omega) ?_
    | refine aw_cond_fp rfl (by omega) ?_
    | refine aw_cond1 rfl (fun h1 => ?_) (fun h1 => ?_)
    | refine aw_cond rfl (fun h1 => ?_) (fun h1 => ?_)
    | refine aw_skip ?_
    | refine aw_exit ?_
    | refine aw_ret ?_
    | refine pp_ret ?_
    | refine pp_normal ?_
  all_goals first
    | rfl
    | (exfalso; omega)
    | (show Value.bool _ = Value.bool _; congr 1; first | exact (decide_eq_false (by omega)).symm | exact (decide_eq_true (by omega)).symm | exact decide_eq_decide.2 (by omega))
set_option maxHeartbeats 1000000 in
theorem ac_rows : ACalls Try.prog 54 [] [] (.map (some 0)) [some ⟨[.int .i64 1, .agg #[.func (.func 73) #[] #[], .func (.func 74) #[] #[]], .int .i64 2, .agg #[.func (.func 72) #[] #[], .func (.func 72) #[] #[]], .int .i64 3, .agg #[.func (.func 75) #[] #[], .func (.func 76) #[] #[]], .int .i64 4, .agg #[.func (.func 71) #[] #[], .func (.func 77) #[] #[]], .int .i64 5, .agg #[.func (.func 71) #[] #[], .func (.func 78) #[] #[]], .int .i64 6, .agg #[.func (.func 71) #[] #[], .func (.func 71) #[] #[]]], true, mapZ⟩] := by
  refine acalls_of_aw Try.func54 rfl rfl ?_
  repeat' first
    | refine st ?_
    | refine stm (h := ok_makeMap (by repeat constructor)) ?_
    | refine stm (h := ok_insert rfl rfl rfl rfl rfl (by repeat constructor)) ?_
    | refine stm ?_
    | refine run_want rfl rfl ?_
    | refine run_unwant rfl rfl ?_
    | refine run_undef rfl rfl ?_
    | refine run_guard1t rfl rfl (by omega) ?_
    | refine run_guard1f rfl rfl (by omega) ?_
    | refine run_guard0t rfl rfl (by omega) ?_
    | refine run_guard0f rfl rfl (by omega) ?_
    | refine run_guard1 rfl rfl (fun h1 => ?_) (fun h1 => ?_)
    | refine run_guard0 rfl rfl (fun h1 => ?_) (fun h1 => ?_)
    | refine run_guard rfl rfl (fun h1 => ?_) (fun h1 => ?_)
    | refine run_nil ?_
    | refine aw_seq ?_
    | refine aw_region (by kernel_rfl) (Nat.le_of_ble_eq_true rfl) ?_
    | refine aw_block ?_
    | refine aw_cond_t rfl ?_
    | refine aw_cond_f rfl ?_
    | refine aw_cond_tp rfl (by omega) ?_
    | refine aw_cond_fp rfl (by omega) ?_
    | refine aw_cond1 rfl (fun h1 => ?_) (fun h1 => ?_)
    | refine aw_cond rfl (fun h1 => ?_) (fun h1 => ?_)
    | refine aw_skip ?_
    | refine aw_exit ?_
    | refine aw_ret ?_
    | refine pp_ret ?_
    | refine pp_normal ?_
  all_goals first | exact pm_ret _ (renumD [0]) rfl | (exfalso; omega)
end Go.Proofs.Ytjamfmnlhiolkaa
