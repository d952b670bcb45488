/- Messages: a response follows the table. -/
import Derived.Test.YtjamfmnlhiolkaaF2
set_option linter.unusedVariables false
set_option linter.unusedSimpArgs false
namespace Go.Proofs.Ytjamfmnlhiolkaa
open Go Av
set_option maxRecDepth 20000
set_option maxHeartbeats 4000000 in
theorem ac_follows_true10 (n cnt : Int) (s o : Nat)  : ACalls Try.prog 28 [.agg #[.int .i64 1, .bool true, .int .i64 n, .int .i64 0, .int .i64 cnt, .slice (some ⟨0, 0, none⟩) s s, .slice (some ⟨1, 0, none⟩) o o]] [none, none] (.bool (decide (1 ≤ s ∧ cnt = s ∧ o = 0))) [none, none] := by
  have H4 := ac_row4 1 n 0 cnt true s o
  obtain ⟨ENT, hg, e1, e2, e3, e4, e5, e6, HT⟩ := ac_rowsO
  refine acalls_law Try.func28 rfl rfl rfl ?_
  repeat' first
    | refine st ?_
    | refine sdN2 (N := [some ⟨ENT, true, mapZ⟩]) (r' := .map (some 3)) 1 HT ?_ (hN := by (show [some (Blk.mk (renL _ ENT) true mapZ)] = _; rw [hg])) (hr := by rfl) (hrw := by rfl) (hi := by rfl)
    | refine sdl (v := .agg #[.func (.func 73) #[] #[], .func (.func 74) #[] #[]]) (h := by (apply ok_lookup2; rfl; rfl; rfl; rfl; exact e1)) ?_
    | refine stRW [0, 1] H4 ?_
    | refine stm ?_
    | refine run_want rfl rfl ?_
    | refine run_unwant rfl rfl ?_
    | refine run_undef rfl rfl ?_
    | refine run_guard1t rfl rfl (by omega) ?_
    | refine run_guard1f rfl rfl (by omega) ?_
    | refine run_guard0t rfl rfl (by omega) ?_
    | refine run_guard0f rfl rfl (by omega) ?_
    | refine run_guard1 rfl rfl (fun h1 => ?_) (fun h1 => ?_)
    | refine run_guard0 rfl rfl (fun h1 => ?_) (fun h1 => ?_)
    | refine run_guard rfl rfl (fun h1 => ?_) (fun h1 => ?_)
    | refine run_nil ?_
    | refine sd ?_
    | refine sdl ?_
    | refine sdm ?_
    | refine sdb ?_
    | refine rund_want rfl rfl ?_
    | refine rund_unwant rfl rfl ?_
    | refine rund_undef rfl rfl ?_
    | refine rund_guard1 rfl rfl (fun h1 => ?_) (fun h1 => ?_)
    | refine rund_guard0 rfl rfl (fun h1 => ?_) (fun h1 => ?_)
    | refine rund_guard rfl rfl (fun h1 => ?_) (fun h1 => ?_)
    | refine rund_nil ?_
    | refine aw_seq ?_
    | refine aw_region (by kernel_rfl) (Nat.le_of_ble_eq_true rfl) ?_
    | refine aw_region_dB (id := 1) 3 rfl [0, 0, 2, 7, 0, 31] 5 (by kernel_rfl) (by kernel_rfl) (by kernel_rfl) (Nat.le_of_ble_eq_true rfl) ?_
    | refine aw_block ?_
    | refine aw_cond_t rfl ?_
    | refine aw_cond_f rfl ?_
    | refine aw_cond_tp rfl (by omega) ?_
    | refine aw_cond_fp rfl (by omega) ?_
    | refine aw_cond1 rfl (fun h1 => ?_) (fun h1 => ?_)
    | refine aw_cond rfl (fun h1 => ?_) (fun h1 => ?_)
    | refine aw_skip ?_
    | refine aw_exit ?_
    | refine aw_ret ?_
    | refine pp_ret ?_
    | refine pp_normal ?_
  all_goals first
    | rfl
    | (exfalso; omega)
    | (show Value.bool _ = Value.bool _; congr 1; first | exact (decide_eq_false (by omega)).symm | exact (decide_eq_true (by omega)).symm | exact decide_eq_decide.2 (by omega))
set_option maxHeartbeats 4000000 in
theorem ac_follows_true11 (n c cnt : Int) (s o : Nat) (hc : ¬ c = 0)  : ACalls Try.prog 28 [.agg #[.int .i64 1, .bool true, .int .i64 n, .int .i64 c, .int .i64 cnt, .slice (some ⟨0, 0, none⟩) s s, .slice (some ⟨1, 0, none⟩) o o]] [none, none] (.bool (decide (cnt = 0 ∧ s = 0 ∧ o = 0))) [none, none] := by
  obtain ⟨ENT, hg, e1, e2, e3, e4, e5, e6, HT⟩ := ac_rowsO
  refine acalls_law Try.func28 rfl rfl rfl ?_
  repeat' first
    | refine st ?_
    | refine sdN2 (N := [some ⟨ENT, true, mapZ⟩]) (r' := .map (some 3)) 1 HT ?_ (hN := by (show [some (Blk.mk (renL _ ENT) true mapZ)] = _; rw [hg])) (hr := by rfl) (hrw := by rfl) (hi := by rfl)
    | refine sdl (v := .agg #[.func (.func 73) #[] #[], .func (.func 74) #[] #[]]) (h := by (apply ok_lookup2; rfl; rfl; rfl; rfl; exact e1)) ?_
    | refine stm ?_
    | refine run_want rfl rfl ?_
    | refine run_unwant rfl rfl ?_
    | refine run_undef rfl rfl ?_
    | refine run_guard1t rfl rfl (by omega) ?_
    | refine run_guard1f rfl rfl (by omega) ?_
    | refine run_guard0t rfl rfl (by omega) ?_
    | refine run_guard0f rfl rfl (by omega) ?_
    | refine run_guard1 rfl rfl (fun h1 => ?_) (fun h1 => ?_)
    | refine run_guard0 rfl rfl (fun h1 => ?_) (fun h1 => ?_)
    | refine run_guard rfl rfl (fun h1 => ?_) (fun h1 => ?_)
    | refine run_nil ?_
    | refine sd ?_
    | refine sdl ?_
    | refine sdm ?_
    | refine sdb ?_
    | refine rund_want rfl rfl ?_
    | refine rund_unwant rfl rfl ?_
    | refine rund_undef rfl rfl ?_
    | refine rund_guard1 rfl rfl (fun h1 => ?_) (fun h1 => ?_)
    | refine rund_guard0 rfl rfl (fun h1 => ?_) (fun h1 => ?_)
    | refine rund_guard rfl rfl (fun h1 => ?_) (fun h1 => ?_)
    | refine rund_nil ?_
    | refine aw_seq ?_
    | refine aw_region (by kernel_rfl) (Nat.le_of_ble_eq_true rfl) ?_
    | refine aw_region_dB (id := 1) 3 rfl [0, 0, 2, 7, 0, 31] 5 (by kernel_rfl) (by kernel_rfl) (by kernel_rfl) (Nat.le_of_ble_eq_true rfl) ?_
    | refine aw_block ?_
    | refine aw_cond_t rfl ?_
    | refine aw_cond_f rfl ?_
    | refine aw_cond_tp rfl (by omega) ?_
    | refine aw_cond_fp rfl (by omega) ?_
    | refine aw_cond1 rfl (fun h1 => ?_) (fun h1 => ?_)
    | refine aw_cond rfl (fun h1 => ?_) (fun h1 => ?_)
    | refine aw_skip ?_
    | refine aw_exit ?_
    | refine aw_ret ?_
    | refine pp_ret ?_
    | refine pp_normal ?_
  all_goals first
    | rfl
    | (exfalso; omega)
    | (show Value.bool _ = Value.bool _; congr 1; first | exact (decide_eq_false (by omega)).symm | exact (decide_eq_true (by omega)).symm | exact decide_eq_decide.2 (by omega))
set_option maxHeartbeats 4000000 in
theorem ac_follows_true20 (n cnt : Int) (s o : Nat)  : ACalls Try.prog 28 [.agg #[.int .i64 2, .bool true, .int .i64 n, .int .i64 0, .int .i64 cnt, .slice (some ⟨0, 0, none⟩) s s, .slice (some ⟨1, 0, none⟩) o o]] [none, none] (.bool (decide (s = 0 ∧ 1 ≤ o ∧ cnt = o))) [none, none] := by
  have H2 := ac_row2 2 n 0 cnt true s o
  obtain ⟨ENT, hg, e1, e2, e3, e4, e5, e6, HT⟩ := ac_rowsO
  refine acalls_law Try.func28 rfl rfl rfl ?_
  repeat' first
    | refine st ?_
    | refine sdN2 (N := [some ⟨ENT, true, mapZ⟩]) (r' := .map (some 3)) 1 HT ?_ (hN := by (show [some (Blk.mk (renL _ ENT) true mapZ)] = _; rw [hg])) (hr := by rfl) (hrw := by rfl) (hi := by rfl)
    | refine sdl (v := .agg #[.func (.func 72) #[] #[], .func (.func 72) #[] #[]]) (h := by (apply ok_lookup2; rfl; rfl; rfl; rfl; exact e2)) ?_
    | refine stRW [0, 1] H2 ?_
    | refine stm ?_
    | refine run_want rfl rfl ?_
    | refine run_unwant rfl rfl ?_
    | refine run_undef rfl rfl ?_
    | refine run_guard1t rfl rfl (by omega) ?_
    | refine run_guard1f rfl rfl (by omega) ?_
    | refine run_guard0t rfl rfl (by omega) ?_
    | refine run_guard0f rfl rfl (by omega) ?_
    | refine run_guard1 rfl rfl (fun h1 => ?_) (fun h1 => ?_)
    | refine run_guard0 rfl rfl (fun h1 => ?_) (fun h1 => ?_)
    | refine run_guard rfl rfl (fun h1 => ?_) (fun h1 => ?_)
    | refine run_nil ?_
    | refine sd ?_
    | refine sdl ?_
    | refine sdm ?_
    | refine sdb ?_
    | refine rund_want rfl rfl ?_
    | refine rund_unwant rfl rfl ?_
    | refine rund_undef rfl rfl ?_
    | refine rund_guard1 rfl rfl (fun h1 => ?_) (fun h1 => ?_)
    | refine rund_guard0 rfl rfl (fun h1 => ?_) (fun h1 => ?_)
    | refine rund_guard rfl rfl (fun h1 => ?_) (fun h1 => ?_)
    | refine rund_nil ?_
    | refine aw_seq ?_
    | refine aw_region (by kernel_rfl) (Nat.le_of_ble_eq_true rfl) ?_
    | refine aw_region_dB (id := 1) 3 rfl [0, 0, 2, 7, 0, 31] 5 (by kernel_rfl) (by kernel_rfl) (by kernel_rfl) (Nat.le_of_ble_eq_true rfl) ?_
    | refine aw_block ?_
    | refine aw_cond_t rfl ?_
    | refine aw_cond_f rfl ?_
    | refine aw_cond_tp rfl (by omega) ?_
    | refine aw_cond_fp rfl (by omega) ?_
    | refine aw_cond1 rfl (fun h1 => ?_) (fun h1 => ?_)
    | refine aw_cond rfl (fun h1 => ?_) (fun h1 => ?_)
    | refine aw_skip ?_
    | refine aw_exit ?_
    | refine aw_ret ?_
    | refine pp_ret ?_
    | refine pp_normal ?_
  all_goals first
    | rfl
    | (exfalso; omega)
    | (show Value.bool _ = Value.bool _; congr 1; first | exact (decide_eq_false (by omega)).symm | exact (decide_eq_true (by omega)).symm | exact decide_eq_decide.2 (by omega))
set_option maxHeartbeats 4000000 in
theorem ac_follows_true21 (n c cnt : Int) (s o : Nat) (hc : ¬ c = 0)  : ACalls Try.prog 28 [.agg #[.int .i64 2, .bool true, .int .i64 n, .int .i64 c, .int .i64 cnt, .slice (some ⟨0, 0, none⟩) s s, .slice (some ⟨1, 0, none⟩) o o]] [none, none] (.bool (decide (cnt = 0 ∧ s = 0 ∧ o = 0))) [none, none] := by
  obtain ⟨ENT, hg, e1, e2, e3, e4, e5, e6, HT⟩ := ac_rowsO
  refine acalls_law Try.func28 rfl rfl rfl ?_
  repeat' first
    | refine st ?_
    | refine sdN2 (N := [some ⟨ENT, true, mapZ⟩]) (r' := .map (some 3)) 1 HT ?_ (hN := by (show [some (Blk.mk (renL _ ENT) true mapZ)] = _; rw [hg])) (hr := by rfl) (hrw := by rfl) (hi := by rfl)
    | refine sdl (v := .agg #[.func (.func 72) #[] #[], .func (.func 72) #[] #[]]) (h := by (apply ok_lookup2; rfl; rfl; rfl; rfl; exact e2)) ?_
    | refine stm ?_
    | refine run_want rfl rfl ?_
    | refine run_unwant rfl rfl ?_
    | refine run_undef rfl rfl ?_
    | refine run_guard1t rfl rfl (by omega) ?_
    | refine run_guard1f rfl rfl (by omega) ?_
    | refine run_guard0t rfl rfl (by omega) ?_
    | refine run_guard0f rfl rfl (by omega) ?_
    | refine run_guard1 rfl rfl (fun h1 => ?_) (fun h1 => ?_)
    | refine run_guard0 rfl rfl (fun h1 => ?_) (fun h1 => ?_)
    | refine run_guard rfl rfl (fun h1 => ?_) (fun h1 => ?_)
    | refine run_nil ?_
    | refine sd ?_
    | refine sdl ?_
    | refine sdm ?_
    | refine sdb ?_
    | refine rund_want rfl rfl ?_
    | refine rund_unwant rfl rfl ?_
    | refine rund_undef rfl rfl ?_
    | refine rund_guard1 rfl rfl (fun h1 => ?_) (fun h1 => ?_)
    | refine rund_guard0 rfl rfl (fun h1 => ?_) (fun h1 => ?_)
    | refine rund_guard rfl rfl (fun h1 => ?_) (fun h1 => ?_)
    | refine rund_nil ?_
    | refine aw_seq ?_
    | refine aw_region (by kernel_rfl) (Nat.le_of_ble_eq_true rfl) ?_
    | refine aw_region_dB (id := 1) 3 rfl [0, 0, 2, 7, 0, 31] 5 (by kernel_rfl) (by kernel_rfl) (by kernel_rfl) (Nat.le_of_ble_eq_true rfl) ?_
    | refine aw_block ?_
    | refine aw_cond_t rfl ?_
    | refine aw_cond_f rfl ?_
    | refine aw_cond_tp rfl (by omega) ?_
    | refine aw_cond_fp rfl (by omega) ?_
    | refine aw_cond1 rfl (fun h1 => ?_) (fun h1 => ?_)
    | refine aw_cond rfl (fun h1 => ?_) (fun h1 => ?_)
    | refine aw_skip ?_
    | refine aw_exit ?_
    | refine aw_ret ?_
    | refine pp_ret ?_
    | refine pp_normal ?_
  all_goals first
    | rfl
    | (exfalso; omega)
    | (show Value.bool _ = Value.bool _; congr 1; first | exact (decide_eq_false (by omega)).symm | exact (decide_eq_true (by omega)).symm | exact decide_eq_decide.2 (by omega))
set_option maxHeartbeats 4000000 in
theorem ac_follows_true30 (n cnt : Int) (s o : Nat)  : ACalls Try.prog 28 [.agg #[.int .i64 3, .bool true, .int .i64 n, .int .i64 0, .int .i64 cnt, .slice (some ⟨0, 0, none⟩) s s, .slice (some ⟨1, 0, none⟩) o o]] [none, none] (.bool (decide (1 ≤ o ∧ cnt = o ∧ s = o))) [none, none] := by
  have H6 := ac_row6 3 n 0 cnt true s o
  obtain ⟨ENT, hg, e1, e2, e3, e4, e5, e6, HT⟩ := ac_rowsO
  refine acalls_law Try.func28 rfl rfl rfl ?_
  repeat' first
    | refine st ?_
    | refine sdN2 (N := [some ⟨ENT, true, mapZ⟩]) (r' := .map (some 3)) 1 HT ?_ (hN := by (show [some (Blk.mk (renL _ ENT) true mapZ)] = _; rw [hg])) (hr := by rfl) (hrw := by rfl) (hi := by rfl)
    | refine sdl (v := .agg #[.func (.func 75) #[] #[], .func (.func 76) #[] #[]]) (h := by (apply ok_lookup2; rfl; rfl; rfl; rfl; exact e3)) ?_
    | refine stRW [0, 1] H6 ?_
    | refine stm ?_
    | refine run_want rfl rfl ?_
    | refine run_unwant rfl rfl ?_
    | refine run_undef rfl rfl ?_
    | refine run_guard1t rfl rfl (by omega) ?_
    | refine run_guard1f rfl rfl (by omega) ?_
    | refine run_guard0t rfl rfl (by omega) ?_
    | refine run_guard0f rfl rfl (by omega) ?_
    | refine run_guard1 rfl rfl (fun h1 => ?_) (fun h1 => ?_)
    | refine run_guard0 rfl rfl (fun h1 => ?_) (fun h1 => ?_)
    | refine run_guard rfl rfl (fun h1 => ?_) (fun h1 => ?_)
    | refine run_nil ?_
    | refine sd ?_
    | refine sdl ?_
    | refine sdm ?_
    | refine sdb ?_
    | refine rund_want rfl rfl ?_
    | refine rund_unwant rfl rfl ?_
    | refine rund_undef rfl rfl ?_
    | refine rund_guard1 rfl rfl (fun h1 => ?_) (fun h1 => ?_)
    | refine rund_guard0 rfl rfl (fun h1 => ?_) (fun h1 => ?_)
    | refine rund_guard rfl rfl (fun h1 => ?_) (fun h1 => ?_)
    | refine rund_nil ?_
    | refine aw_seq ?_
    | refine aw_region (by kernel_rfl) (Nat.le_of_ble_eq_true rfl) ?_
    | refine aw_region_dB (id := 1) 3 rfl [0, 0, 2, 7, 0, 31] 5 (by kernel_rfl) (by kernel_rfl) (by kernel_rfl) (Nat.le_of_ble_eq_true rfl) ?_
    | refine aw_block ?_
    | refine aw_cond_t rfl ?_
    | refine aw_cond_f rfl ?_
    | refine aw_cond_tp rfl (by omega) ?_
    | refine aw_cond_fp rfl (by omega) ?_
    | refine aw_cond1 rfl (fun h1 => ?_) (fun h1 => ?_)
    | refine aw_cond rfl (fun h1 => ?_) (fun h1 => ?_)
    | refine aw_skip ?_
    | refine aw_exit ?_
    | refine aw_ret ?_
    | refine pp_ret ?_
    | refine pp_normal ?_
  all_goals first
    | rfl
    | (exfalso; omega)
    | (show Value.bool _ = Value.bool _; congr 1; first | exact (decide_eq_false (by omega)).symm | exact (decide_eq_true (by omega)).symm | exact decide_eq_decide.2 (by omega))
set_option maxHeartbeats 4000000 in
theorem ac_follows_true31 (n c cnt : Int) (s o : Nat) (hc : ¬ c = 0)  : ACalls Try.prog 28 [.agg #[.int .i64 3, .bool true, .int .i64 n, .int .i64 c, .int .i64 cnt, .slice (some ⟨0, 0, none⟩) s s, .slice (some ⟨1, 0, none⟩) o o]] [none, none] (.bool (decide (cnt = 0 ∧ s = 0 ∧ o = 0))) [none, none] := by
  obtain ⟨ENT, hg, e1, e2, e3, e4, e5, e6, HT⟩ := ac_rowsO
  refine acalls_law Try.func28 rfl rfl rfl ?_
  repeat' first
    | refine st ?_
    | refine sdN2 (N := [some ⟨ENT, true, mapZ⟩]) (r' := .map (some 3)) 1 HT ?_ (hN := by (show [some (Blk.mk (renL _ ENT) true mapZ)] = _; rw [hg])) (hr := by rfl) (hrw := by rfl) (hi := by rfl)
    | refine sdl (v := .agg #[.func (.func 75) #[] #[], .func (.func 76) #[] #[]]) (h := by (apply ok_lookup2; rfl; rfl; rfl; rfl; exact e3)) ?_
    | refine stm ?_
    | refine run_want rfl rfl ?_
    | refine run_unwant rfl rfl ?_
    | refine run_undef rfl rfl ?_
    | refine run_guard1t rfl rfl (by omega) ?_
    | refine run_guard1f rfl rfl (by omega) ?_
    | refine run_guard0t rfl rfl (by omega) ?_
    | refine run_guard0f rfl rfl (by omega) ?_
    | refine run_guard1 rfl rfl (fun h1 => ?_) (fun h1 => ?_)
    | refine run_guard0 rfl rfl (fun h1 => ?_) (fun h1 => ?_)
    | refine run_guard rfl rfl (fun h1 => ?_) (fun h1 => ?_)
    | refine run_nil ?_
    | refine sd ?_
    | refine sdl ?_
    | refine sdm ?_
    | refine sdb ?_
    | refine rund_want rfl rfl ?_
    | refine rund_unwant rfl rfl ?_
    | refine rund_undef rfl rfl ?_
    | refine rund_guard1 rfl rfl (fun h1 => ?_) (fun h1 => ?_)
    | refine rund_guard0 rfl rfl (fun h1 => ?_) (fun h1 => ?_)
    | refine rund_guard rfl rfl (fun h1 => ?_) (fun h1 => ?_)
    | refine rund_nil ?_
    | refine aw_seq ?_
    | refine aw_region (by kernel_rfl) (Nat.le_of_ble_eq_true rfl) ?_
    | refine aw_region_dB (id := 1) 3 rfl [0, 0, 2, 7, 0, 31] 5 (by kernel_rfl) (by kernel_rfl) (by kernel_rfl) (Nat.le_of_ble_eq_true rfl) ?_
    | refine aw_block ?_
    | refine aw_cond_t rfl ?_
    | refine aw_cond_f rfl ?_
    | refine aw_cond_tp rfl (by omega) ?_
    | refine aw_cond_fp rfl (by omega) ?_
    | refine aw_cond1 rfl (fun h1 => ?_) (fun h1 => ?_)
    | refine aw_cond rfl (fun h1 => ?_) (fun h1 => ?_)
    | refine aw_skip ?_
    | refine aw_exit ?_
    | refine aw_ret ?_
    | refine pp_ret ?_
    | refine pp_normal ?_
  all_goals first
    | rfl
    | (exfalso; omega)
    | (show Value.bool _ = Value.bool _; congr 1; first | exact (decide_eq_false (by omega)).symm | exact (decide_eq_true (by omega)).symm | exact decide_eq_decide.2 (by omega))
set_option maxHeartbeats 4000000 in
theorem ac_follows_true40 (n cnt : Int) (s o : Nat)  : ACalls Try.prog 28 [.agg #[.int .i64 4, .bool true, .int .i64 n, .int .i64 0, .int .i64 cnt, .slice (some ⟨0, 0, none⟩) s s, .slice (some ⟨1, 0, none⟩) o o]] [none, none] (.bool (decide (s = 0 ∧ o = 0))) [none, none] := by
  have H7 := ac_row7 4 n 0 cnt true s o
  obtain ⟨ENT, hg, e1, e2, e3, e4, e5, e6, HT⟩ := ac_rowsO
  refine acalls_law Try.func28 rfl rfl rfl ?_
  repeat' first
    | refine st ?_
    | refine sdN2 (N := [some ⟨ENT, true, mapZ⟩]) (r' := .map (some 3)) 1 HT ?_ (hN := by (show [some (Blk.mk (renL _ ENT) true mapZ)] = _; rw [hg])) (hr := by rfl) (hrw := by rfl) (hi := by rfl)
    | refine sdl (v := .agg #[.func (.func 71) #[] #[], .func (.func 77) #[] #[]]) (h := by (apply ok_lookup2; rfl; rfl; rfl; rfl; exact e4)) ?_
    | refine stRW [0, 1] H7 ?_
    | refine stm ?_
    | refine run_want rfl rfl ?_
    | refine run_unwant rfl rfl ?_
    | refine run_undef rfl rfl ?_
    | refine run_guard1t rfl rfl (by omega) ?_
    | refine run_guard1f rfl rfl (by omega) ?_
    | refine run_guard0t rfl rfl (by omega) ?_
    | refine run_guard0f rfl rfl (by omega) ?_
    | refine run_guard1 rfl rfl (fun h1 => ?_) (fun h1 => ?_)
    | refine run_guard0 rfl rfl (fun h1 => ?_) (fun h1 => ?_)
    | refine run_guard rfl rfl (fun h1 => ?_) (fun h1 => ?_)
    | refine run_nil ?_
    | refine sd ?_
    | refine sdl ?_
    | refine sdm ?_
    | refine sdb ?_
    | refine rund_want rfl rfl ?_
    | refine rund_unwant rfl rfl ?_
    | refine rund_undef rfl rfl ?_
    | refine rund_guard1 rfl rfl (fun h1 => ?_) (fun h1 => ?_)
    | refine rund_guard0 rfl rfl (fun h1 => ?_) (fun h1 => ?_)
    | refine rund_guard rfl rfl (fun h1 => ?_) (fun h1 => ?_)
    | refine rund_nil ?_
    | refine aw_seq ?_
    | refine aw_region (by kernel_rfl) (Nat.le_of_ble_eq_true rfl) ?_
    | refine aw_region_dB (id := 1) 3 rfl [0, 0, 2, 7, 0, 31] 5 (by kernel_rfl) (by kernel_rfl) (by kernel_rfl) (Nat.le_of_ble_eq_true rfl) ?_
    | refine aw_block ?_
    | refine aw_cond_t rfl ?_
    | refine aw_cond_f rfl ?_
    | refine aw_cond_tp rfl (by omega) ?_
    | refine aw_cond_fp rfl (by omega) ?_
    | refine aw_cond1 rfl (fun h1 => ?_) (fun h1 => ?_)
    | refine aw_cond rfl (fun h1 => ?_) (fun h1 => ?_)
    | refine aw_skip ?_
    | refine aw_exit ?_
    | refine aw_ret ?_
    | refine pp_ret ?_
    | refine pp_normal ?_
  all_goals first
    | rfl
    | (exfalso; omega)
    | (show Value.bool _ = Value.bool _; congr 1; first | exact (decide_eq_false (by omega)).symm | exact (decide_eq_true (by omega)).symm | exact decide_eq_decide.2 (by omega))
set_option maxHeartbeats 4000000 in
theorem ac_follows_true41 (n c cnt : Int) (s o : Nat) (hc : ¬ c = 0)  : ACalls Try.prog 28 [.agg #[.int .i64 4, .bool true, .int .i64 n, .int .i64 c, .int .i64 cnt, .slice (some ⟨0, 0, none⟩) s s, .slice (some ⟨1, 0, none⟩) o o]] [none, none] (.bool (decide (cnt = 0 ∧ s = 0 ∧ o = 0))) [none, none] := by
  obtain ⟨ENT, hg, e1, e2, e3, e4, e5, e6, HT⟩ := ac_rowsO
  refine acalls_law Try.func28 rfl rfl rfl ?_
  repeat' first
    | refine st ?_
    | refine sdN2 (N := [some ⟨ENT, true, mapZ⟩]) (r' := .map (some 3)) 1 HT ?_ (hN := by (show [some (Blk.mk (renL _ ENT) true mapZ)] = _; rw [hg])) (hr := by rfl) (hrw := by rfl) (hi := by rfl)
    | refine sdl (v := .agg #[.func (.func 71) #[] #[], .func (.func 77) #[] #[]]) (h := by (apply ok_lookup2; rfl; rfl; rfl; rfl; exact e4)) ?_
    | refine stm ?_
    | refine run_want rfl rfl ?_
    | refine run_unwant rfl rfl ?_
    | refine run_undef rfl rfl ?_
    | refine run_guard1t rfl rfl (by omega) ?_
    | refine run_guard1f rfl rfl (by omega) ?_
    | refine run_guard0t rfl rfl (by omega) ?_
    | refine run_guard0f rfl rfl (by omega) ?_
    | refine run_guard1 rfl rfl (fun h1 => ?_) (fun h1 => ?_)
    | refine run_guard0 rfl rfl (fun h1 => ?_) (fun h1 => ?_)
    | refine run_guard rfl rfl (fun h1 => ?_) (fun h1 => ?_)
    | refine run_nil ?_
    | refine sd ?_
    | refine sdl ?_
    | refine sdm ?_
    | refine sdb ?_
    | refine rund_want rfl rfl ?_
    | refine rund_unwant rfl rfl ?_
    | refine rund_undef rfl rfl ?_
    | refine rund_guard1 rfl rfl (fun h1 => ?_) (fun h1 => ?_)
    | refine rund_guard0 rfl rfl (fun h1 => ?_) (fun h1 => ?_)
    | refine rund_guard rfl rfl (fun h1 => ?_) (fun h1 => ?_)
    | refine rund_nil ?_
    | refine aw_seq ?_
    | refine aw_region (by kernel_rfl) (Nat.le_of_ble_eq_true rfl) ?_
    | refine aw_region_dB (id := 1) 3 rfl [0, 0, 2, 7, 0, 31] 5 (by kernel_rfl) (by kernel_rfl) (by kernel_rfl) (Nat.le_of_ble_eq_true rfl) ?_
    | refine aw_block ?_
    | refine aw_cond_t rfl ?_
    | refine aw_cond_f rfl ?_
    | refine aw_cond_tp rfl (by omega) ?_
    | refine aw_cond_fp rfl (by omega) ?_
    | refine aw_cond1 rfl (fun h1 => ?_) (fun h1 => ?_)
    | refine aw_cond rfl (fun h1 => ?_) (fun h1 => ?_)
    | refine aw_skip ?_
    | refine aw_exit ?_
    | refine aw_ret ?_
    | refine pp_ret ?_
    | refine pp_normal ?_
  all_goals first
    | rfl
    | (exfalso; omega)
    | (show Value.bool _ = Value.bool _; congr 1; first | exact (decide_eq_false (by omega)).symm | exact (decide_eq_true (by omega)).symm | exact decide_eq_decide.2 (by omega))
set_option maxHeartbeats 4000000 in
theorem ac_follows_true50 (n cnt : Int) (s o : Nat)  : ACalls Try.prog 28 [.agg #[.int .i64 5, .bool true, .int .i64 n, .int .i64 0, .int .i64 cnt, .slice (some ⟨0, 0, none⟩) s s, .slice (some ⟨1, 0, none⟩) o o]] [none, none] (.bool (decide ((s : Int) = min 8 cnt ∧ o = 0))) [none, none] := by
  have H8 := ac_row8 5 n 0 cnt true s o
  obtain ⟨ENT, hg, e1, e2, e3, e4, e5, e6, HT⟩ := ac_rowsO
  refine acalls_law Try.func28 rfl rfl rfl ?_
  repeat' first
    | refine st ?_
    | refine sdN2 (N := [some ⟨ENT, true, mapZ⟩]) (r' := .map (some 3)) 1 HT ?_ (hN := by (show [some (Blk.mk (renL _ ENT) true mapZ)] = _; rw [hg])) (hr := by rfl) (hrw := by rfl) (hi := by rfl)
    | refine sdl (v := .agg #[.func (.func 71) #[] #[], .func (.func 78) #[] #[]]) (h := by (apply ok_lookup2; rfl; rfl; rfl; rfl; exact e5)) ?_
    | refine stRW [0, 1] H8 ?_
    | refine stm ?_
    | refine run_want rfl rfl ?_
    | refine run_unwant rfl rfl ?_
    | refine run_undef rfl rfl ?_
    | refine run_guard1t rfl rfl (by omega) ?_
    | refine run_guard1f rfl rfl (by omega) ?_
    | refine run_guard0t rfl rfl (by omega) ?_
    | refine run_guard0f rfl rfl (by omega) ?_
    | refine run_guard1 rfl rfl (fun h1 => ?_) (fun h1 => ?_)
    | refine run_guard0 rfl rfl (fun h1 => ?_) (fun h1 => ?_)
    | refine run_guard rfl rfl (fun h1 => ?_) (fun h1 => ?_)
    | refine run_nil ?_
    | refine sd ?_
    | refine sdl ?_
    | refine sdm ?_
    | refine sdb ?_
    | refine rund_want rfl rfl ?_
    | refine rund_unwant rfl rfl ?_
    | refine rund_undef rfl rfl ?_
    | refine rund_guard1 rfl rfl (fun h1 => ?_) (fun h1 => ?_)
    | refine rund_guard0 rfl rfl (fun h1 => ?_) (fun h1 => ?_)
    | refine rund_guard rfl rfl (fun h1 => ?_) (fun h1 => ?_)
    | refine rund_nil ?_
    | refine aw_seq ?_
    | refine aw_region (by kernel_rfl) (Nat.le_of_ble_eq_true rfl) ?_
    | refine aw_region_dB (id := 1) 3 rfl [0, 0, 2, 7, 0, 31] 5 (by kernel_rfl) (by kernel_rfl) (by kernel_rfl) (Nat.le_of_ble_eq_true rfl) ?_
    | refine aw_block ?_
    | refine aw_cond_t rfl ?_
    | refine aw_cond_f rfl ?_
    | refine aw_cond_tp rfl (by omega) ?_
    | refine aw_cond_fp rfl (by omega) ?_
    | refine aw_cond1 rfl (fun h1 => ?_) (fun h1 => ?_)
    | refine aw_cond rfl (fun h1 => ?_) (fun h1 => ?_)
    | refine aw_skip ?_
    | refine aw_exit ?_
    | refine aw_ret ?_
    | refine pp_ret ?_
    | refine pp_normal ?_
  all_goals first
    | rfl
    | (exfalso; omega)
    | (show Value.bool _ = Value.bool _; congr 1; first | exact (decide_eq_false (by omega)).symm | exact (decide_eq_true (by omega)).symm | exact decide_eq_decide.2 (by omega))
set_option maxHeartbeats 4000000 in
theorem ac_follows_true51 (n c cnt : Int) (s o : Nat) (hc : ¬ c = 0)  : ACalls Try.prog 28 [.agg #[.int .i64 5, .bool true, .int .i64 n, .int .i64 c, .int .i64 cnt, .slice (some ⟨0, 0, none⟩) s s, .slice (some ⟨1, 0, none⟩) o o]] [none, none] (.bool (decide (cnt = 0 ∧ s = 0 ∧ o = 0))) [none, none] := by
  obtain ⟨ENT, hg, e1, e2, e3, e4, e5, e6, HT⟩ := ac_rowsO
  refine acalls_law Try.func28 rfl rfl rfl ?_
  repeat' first
    | refine st ?_
    | refine sdN2 (N := [some ⟨ENT, true, mapZ⟩]) (r' := .map (some 3)) 1 HT ?_ (hN := by (show [some (Blk.mk (renL _ ENT) true mapZ)] = _; rw [hg])) (hr := by rfl) (hrw := by rfl) (hi := by rfl)
    | refine sdl (v := .agg #[.func (.func 71) #[] #[], .func (.func 78) #[] #[]]) (h := by (apply ok_lookup2; rfl; rfl; rfl; rfl; exact e5)) ?_
    | refine stm ?_
    | refine run_want rfl rfl ?_
    | refine run_unwant rfl rfl ?_
    | refine run_undef rfl rfl ?_
    | refine run_guard1t rfl rfl (by omega) ?_
    | refine run_guard1f rfl rfl (by omega) ?_
    | refine run_guard0t rfl rfl (by omega) ?_
    | refine run_guard0f rfl rfl (by omega) ?_
    | refine run_guard1 rfl rfl (fun h1 => ?_) (fun h1 => ?_)
    | refine run_guard0 rfl rfl (fun h1 => ?_) (fun h1 => ?_)
    | refine run_guard rfl rfl (fun h1 => ?_) (fun h1 => ?_)
    | refine run_nil ?_
    | refine sd ?_
    | refine sdl ?_
    | refine sdm ?_
    | refine sdb ?_
    | refine rund_want rfl rfl ?_
    | refine rund_unwant rfl rfl ?_
    | refine rund_undef rfl rfl ?_
    | refine rund_guard1 rfl rfl (fun h1 => ?_) (fun h1 => ?_)
    | refine rund_guard0 rfl rfl (fun h1 => ?_) (fun h1 => ?_)
    | refine rund_guard rfl rfl (fun h1 => ?_) (fun h1 => ?_)
    | refine rund_nil ?_
    | refine aw_seq ?_
    | refine aw_region (by kernel_rfl) (Nat.le_of_ble_eq_true rfl) ?_
    | refine aw_region_dB (id := 1) 3 rfl [0, 0, 2, 7, 0, 31] 5 (by kernel_rfl) (by kernel_rfl) (by kernel_rfl) (Nat.le_of_ble_eq_true rfl) ?_
    | refine aw_block ?_
    | refine aw_cond_t rfl ?_
    | refine aw_cond_f rfl ?_
    | refine aw_cond_tp rfl (by omega) ?_
    | refine aw_cond_fp rfl (by omega) ?_
    | refine aw_cond1 rfl (fun h1 => ?_) (fun h1 => ?_)
    | refine aw_cond rfl (fun h1 => ?_) (fun h1 => ?_)
    | refine aw_skip ?_
    | refine aw_exit ?_
    | refine aw_ret ?_
    | refine pp_ret ?_
    | refine pp_normal ?_
  all_goals first
    | rfl
    | (exfalso; omega)
    | (show Value.bool _ = Value.bool _; congr 1; first | exact (decide_eq_false (by omega)).symm | exact (decide_eq_true (by omega)).symm | exact decide_eq_decide.2 (by omega))
set_option maxHeartbeats 4000000 in
theorem ac_follows_true60 (n cnt : Int) (s o : Nat)  : ACalls Try.prog 28 [.agg #[.int .i64 6, .bool true, .int .i64 n, .int .i64 0, .int .i64 cnt, .slice (some ⟨0, 0, none⟩) s s, .slice (some ⟨1, 0, none⟩) o o]] [none, none] (.bool (decide (cnt = 0 ∧ s = 0 ∧ o = 0))) [none, none] := by
  have H1 := ac_row1 6 n 0 cnt true s o
  obtain ⟨ENT, hg, e1, e2, e3, e4, e5, e6, HT⟩ := ac_rowsO
  refine acalls_law Try.func28 rfl rfl rfl ?_
  repeat' first
    | refine st ?_
    | refine sdN2 (N := [some ⟨ENT, true, mapZ⟩]) (r' := .map (some 3)) 1 HT ?_ (hN := by (show [some (Blk.mk (renL _ ENT) true mapZ)] = _; rw [hg])) (hr := by rfl) (hrw := by rfl) (hi := by rfl)
    | refine sdl (v := .agg #[.func (.func 71) #[] #[], .func (.func 71) #[] #[]]) (h := by (apply ok_lookup2; rfl; rfl; rfl; rfl; exact e6)) ?_
    | refine stRW [0, 1] H1 ?_
    | refine stm ?_
    | refine run_want rfl rfl ?_
    | refine run_unwant rfl rfl ?_
    | refine run_undef rfl rfl ?_
    | refine run_guard1t rfl rfl (by omega) ?_
    | refine run_guard1f rfl rfl (by omega) ?_
    | refine run_guard0t rfl rfl (by omega) ?_
    | refine run_guard0f rfl rfl (by omega) ?_
    | refine run_guard1 rfl rfl (fun h1 => ?_) (fun h1 => ?_)
    | refine run_guard0 rfl rfl (fun h1 => ?_) (fun h1 => ?_)
    | refine run_guard rfl rfl (fun h1 => ?_) (fun h1 => ?_)
    | refine run_nil ?_
    | refine sd ?_
    | refine sdl ?_
    | refine sdm ?_
    | refine sdb ?_
    | refine rund_want rfl rfl ?_
    | refine rund_unwant rfl rfl ?_
    | refine rund_undef rfl rfl ?_
    | refine rund_guard1 rfl rfl (fun h1 => ?_) (fun h1 => ?_)
    | refine rund_guard0 rfl rfl (fun h1 => ?_) (fun h1 => ?_)
    | refine rund_guard rfl rfl (fun h1 => ?_) (fun h1 => ?_)
    | refine rund_nil ?_
    | refine aw_seq ?_
    | refine aw_region (by kernel_rfl) (Nat.le_of_ble_eq_true rfl) ?_
    | refine aw_region_dB (id := 1) 3 rfl [0, 0, 2, 7, 0, 31] 5 (by kernel_rfl) (by kernel_rfl) (by kernel_rfl) (Nat.le_of_ble_eq_true rfl) ?_
    | refine aw_block ?_
    | refine aw_cond_t rfl ?_
    | refine aw_cond_f rfl ?_
    | refine aw_cond_tp rfl (by omega) ?_
    | refine aw_cond_fp rfl (by omega) ?_
    | refine aw_cond1 rfl (fun h1 => ?_) (fun h1 => ?_)
    | refine aw_cond rfl (fun h1 => ?_) (fun h1 => ?_)
    | refine aw_skip ?_
    | refine aw_exit ?_
    | refine aw_ret ?_
    | refine pp_ret ?_
    | refine pp_normal ?_
  all_goals first
    | rfl
    | (exfalso; omega)
    | (show Value.bool _ = Value.bool _; congr 1; first | exact (decide_eq_false (by omega)).symm | exact (decide_eq_true (by omega)).symm | exact decide_eq_decide.2 (by omega))
set_option maxHeartbeats 4000000 in
theorem ac_follows_true61 (n c cnt : Int) (s o : Nat) (hc : ¬ c = 0)  : ACalls Try.prog 28 [.agg #[.int .i64 6, .bool true, .int .i64 n, .int .i64 c, .int .i64 cnt, .slice (some ⟨0, 0, none⟩) s s, .slice (some ⟨1, 0, none⟩) o o]] [none, none] (.bool (decide (cnt = 0 ∧ s = 0 ∧ o = 0))) [none, none] := by
  obtain ⟨ENT, hg, e1, e2, e3, e4, e5, e6, HT⟩ := ac_rowsO
  refine acalls_law Try.func28 rfl rfl rfl ?_
  repeat' first
    | refine st ?_
    | refine sdN2 (N := [some ⟨ENT, true, mapZ⟩]) (r' := .map (some 3)) 1 HT ?_ (hN := by (show [some (Blk.mk (renL _ ENT) true mapZ)] = _; rw [hg])) (hr := by rfl) (hrw := by rfl) (hi := by rfl)
    | refine sdl (v := .agg #[.func (.func 71) #[] #[], .func (.func 71) #[] #[]]) (h := by (apply ok_lookup2; rfl; rfl; rfl; rfl; exact e6)) ?_
    | refine stm ?_
    | refine run_want rfl rfl ?_
    | refine run_unwant rfl rfl ?_
    | refine run_undef rfl rfl ?_
    | refine run_guard1t rfl rfl (by omega) ?_
    | refine run_guard1f rfl rfl (by omega) ?_
    | refine run_guard0t rfl rfl (by omega) ?_
    | refine run_guard0f rfl rfl (by omega) ?_
    | refine run_guard1 rfl rfl (fun h1 => ?_) (fun h1 => ?_)
    | refine run_guard0 rfl rfl (fun h1 => ?_) (fun h1 => ?_)
    | refine run_guard rfl rfl (fun h1 => ?_) (fun h1 => ?_)
    | refine run_nil ?_
    | refine sd ?_
    | refine sdl ?_
    | refine sdm ?_
    | refine sdb ?_
    | refine rund_want rfl rfl ?_
    | refine rund_unwant rfl rfl ?_
    | refine rund_undef rfl rfl ?_
    | refine rund_guard1 rfl rfl (fun h1 => ?_) (fun h1 => ?_)
    | refine rund_guard0 rfl rfl (fun h1 => ?_) (fun h1 => ?_)
    | refine rund_guard rfl rfl (fun h1 => ?_) (fun h1 => ?_)
    | refine rund_nil ?_
    | refine aw_seq ?_
    | refine aw_region (by kernel_rfl) (Nat.le_of_ble_eq_true rfl) ?_
    | refine aw_region_dB (id := 1) 3 rfl [0, 0, 2, 7, 0, 31] 5 (by kernel_rfl) (by kernel_rfl) (by kernel_rfl) (Nat.le_of_ble_eq_true rfl) ?_
    | refine aw_block ?_
    | refine aw_cond_t rfl ?_
    | refine aw_cond_f rfl ?_
    | refine aw_cond_tp rfl (by omega) ?_
    | refine aw_cond_fp rfl (by omega) ?_
    | refine aw_cond1 rfl (fun h1 => ?_) (fun h1 => ?_)
    | refine aw_cond rfl (fun h1 => ?_) (fun h1 => ?_)
    | refine aw_skip ?_
    | refine aw_exit ?_
    | refine aw_ret ?_
    | refine pp_ret ?_
    | refine pp_normal ?_
  all_goals first
    | rfl
    | (exfalso; omega)
    | (show Value.bool _ = Value.bool _; congr 1; first | exact (decide_eq_false (by omega)).symm | exact (decide_eq_true (by omega)).symm | exact decide_eq_decide.2 (by omega))
theorem ac_follows_true (k n c cnt : Int) (s o : Nat) (hk : 1 ≤ k ∧ k ≤ 6) (hs : s ≤ 8) (ho : o ≤ 8) : ACalls Try.prog 28 [.agg #[.int .i64 k, .bool true, .int .i64 n, .int .i64 c, .int .i64 cnt, .slice (some ⟨0, 0, none⟩) s s, .slice (some ⟨1, 0, none⟩) o o]] [none, none] (.bool (decide (flwR k c cnt s o))) [none, none] := by
  have hkk : k = 1 ∨ k = 2 ∨ k = 3 ∨ k = 4 ∨ k = 5 ∨ k = 6 := by omega
  by_cases hc : c = 0
  · subst hc
    rcases hkk with rfl | rfl | rfl | rfl | rfl | rfl
    · have h := ac_follows_true10 n cnt s o
      rwa [decide_eq_decide.2 (show (1 ≤ s ∧ cnt = s ∧ o = 0) ↔ flwR 1 0 cnt s o by unfold flwR; omega)] at h
    · have h := ac_follows_true20 n cnt s o
      rwa [decide_eq_decide.2 (show (s = 0 ∧ 1 ≤ o ∧ cnt = o) ↔ flwR 2 0 cnt s o by unfold flwR; omega)] at h
    · have h := ac_follows_true30 n cnt s o
      rwa [decide_eq_decide.2 (show (1 ≤ o ∧ cnt = o ∧ s = o) ↔ flwR 3 0 cnt s o by unfold flwR; omega)] at h
    · have h := ac_follows_true40 n cnt s o
      rwa [decide_eq_decide.2 (show (s = 0 ∧ o = 0) ↔ flwR 4 0 cnt s o by unfold flwR; omega)] at h
    · have h := ac_follows_true50 n cnt s o
      rwa [decide_eq_decide.2 (show ((s : Int) = min 8 cnt ∧ o = 0) ↔ flwR 5 0 cnt s o by unfold flwR; omega)] at h
    · have h := ac_follows_true60 n cnt s o
      rwa [decide_eq_decide.2 (show (cnt = 0 ∧ s = 0 ∧ o = 0) ↔ flwR 6 0 cnt s o by unfold flwR; omega)] at h
  · rcases hkk with rfl | rfl | rfl | rfl | rfl | rfl
    · have h := ac_follows_true11 n c cnt s o hc
      rwa [decide_eq_decide.2 (show (cnt = 0 ∧ s = 0 ∧ o = 0) ↔ flwR 1 c cnt s o by unfold flwR; omega)] at h
    · have h := ac_follows_true21 n c cnt s o hc
      rwa [decide_eq_decide.2 (show (cnt = 0 ∧ s = 0 ∧ o = 0) ↔ flwR 2 c cnt s o by unfold flwR; omega)] at h
    · have h := ac_follows_true31 n c cnt s o hc
      rwa [decide_eq_decide.2 (show (cnt = 0 ∧ s = 0 ∧ o = 0) ↔ flwR 3 c cnt s o by unfold flwR; omega)] at h
    · have h := ac_follows_true41 n c cnt s o hc
      rwa [decide_eq_decide.2 (show (cnt = 0 ∧ s = 0 ∧ o = 0) ↔ flwR 4 c cnt s o by unfold flwR; omega)] at h
    · have h := ac_follows_true51 n c cnt s o hc
      rwa [decide_eq_decide.2 (show (cnt = 0 ∧ s = 0 ∧ o = 0) ↔ flwR 5 c cnt s o by unfold flwR; omega)] at h
    · have h := ac_follows_true61 n c cnt s o hc
      rwa [decide_eq_decide.2 (show (cnt = 0 ∧ s = 0 ∧ o = 0) ↔ flwR 6 c cnt s o by unfold flwR; omega)] at h
end Go.Proofs.Ytjamfmnlhiolkaa
