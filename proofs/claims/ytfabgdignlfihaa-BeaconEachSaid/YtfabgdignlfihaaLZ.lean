/- Beacons: the chapter's example. -/
import Derived.Test.YtfabgdignlfihaaK7
import Derived.Test.YtfabgdignlfihaaH4
set_option linter.unusedVariables false
set_option linter.unusedSimpArgs false
namespace Go.Proofs.Ytfabgdignlfihaa
open Go Av
set_option maxRecDepth 20000
theorem ac_sharedCell (s : Int) : ACalls Try.prog 25 [.int .i64 s] [] (.agg #[.int .i64 s, .int .i64 0, .int .i64 3, .bool false, .int .i64 (-1), .int .i64 (-1)]) [] := by
  refine acalls_law Try.func25 rfl rfl rfl ?_
  repeat' first
    | refine st ?_
    | refine stm ?_
    | refine run_want rfl rfl ?_
    | refine run_unwant rfl rfl ?_
    | refine run_undef rfl rfl ?_
    | refine run_guard1t rfl rfl (by omega) ?_
    | refine run_guard1f rfl rfl (by omega) ?_
    | refine run_guard0t rfl rfl (by omega) ?_
    | refine run_guard0f rfl rfl (by omega) ?_
    | refine run_guard1 rfl rfl (fun h1 => ?_) (fun h1 => ?_)
    | refine run_guard0 rfl rfl (fun h1 => ?_) (fun h1 => ?_)
    | refine run_guard rfl rfl (fun h1 => ?_) (fun h1 => ?_)
    | refine run_nil ?_
    | refine aw_seq ?_
    | refine aw_region (by kernel_rfl) (Nat.le_of_ble_eq_true rfl) ?_
    | refine aw_block ?_
    | refine aw_cond_t rfl ?_
    | refine aw_cond_f rfl ?_
    | refine aw_cond_tp rfl (by omega) ?_
    | refine aw_cond_fp rfl (by omega) ?_
    | refine aw_cond1 rfl (fun h1 => ?_) (fun h1 => ?_)
    | refine aw_cond rfl (fun h1 => ?_) (fun h1 => ?_)
    | refine aw_skip ?_
    | refine aw_exit ?_
    | refine aw_ret ?_
    | refine pp_ret ?_
    | refine pp_normal ?_
  all_goals first
    | rfl
    | (exfalso; omega)
    | (exfalso; simp only [Bool.not_eq_true', Bool.not_eq_false', decide_eq_true_eq, decide_eq_false_iff_not, Bool.not_false, Bool.not_true] at *; omega)
    | (exfalso; simp_all; first | done | omega)
theorem w_next : nextR 4 10 [(2, 0, 3, false, -1, -1, ()), (7, 0, 3, false, -1, -1, ())] 8 3 = (22, true) := by kernel_rfl
theorem w_turn : turnR 4 10 [(2, 0, 3, false, -1, -1, ()), (7, 0, 3, false, -1, -1, ())] 12 3 = (2, true) := by kernel_rfl
theorem w_due : dueB 4 10 [(2, 0, 3, false, -1, -1, ()), (7, 0, 3, false, -1, -1, ())] 7 3 = true := by kernel_rfl
theorem w_chk : chkO 0 ⟨#[]⟩ 0 0 0 [] = 0 := by kernel_rfl
theorem w_enc : pkB (ofB 0 true ⟨#[]⟩ 0 0 0 []) = ⟨#[4, 0]⟩ := by kernel_rfl
set_option maxHeartbeats 4000000 in
theorem ac_awake : ACalls Try.prog 11 [] [] (.bool true) [] := by
  have H1 : ACalls Try.prog 20 [.agg #[.int .i64 4, .int .i64 10, .slice (some ⟨0, 0, none⟩) 2 2], .int .i64 8, .int .i64 3] [some ⟨[.int .i64 2, .int .i64 0, .int .i64 3, .bool false, .int .i64 (-1), .int .i64 (-1), .int .i64 7, .int .i64 0, .int .i64 3, .bool false, .int .i64 (-1), .int .i64 (-1)], false, 6⟩] (.tuple #[.int .i64 22, .bool true]) [none] := ac_next 4 10 [(2, 0, 3, false, -1, -1, ()), (7, 0, 3, false, -1, -1, ())] 2 rfl (by decide) 8 3 (by decide) 22 true w_next
  have H2 : ACalls Try.prog 18 [.agg #[.int .i64 4, .int .i64 10, .slice (some ⟨0, 0, none⟩) 2 2], .int .i64 12, .int .i64 3] [some ⟨[.int .i64 2, .int .i64 0, .int .i64 3, .bool false, .int .i64 (-1), .int .i64 (-1), .int .i64 7, .int .i64 0, .int .i64 3, .bool false, .int .i64 (-1), .int .i64 (-1)], false, 6⟩] (.tuple #[.int .i64 2, .bool true]) [none] := ac_turn 4 10 [(2, 0, 3, false, -1, -1, ()), (7, 0, 3, false, -1, -1, ())] 2 rfl (by decide) 12 3 (by decide) 2 true w_turn
  have H3 : ACalls Try.prog 22 [.agg #[.int .i64 4, .int .i64 10, .slice (some ⟨0, 0, none⟩) 2 2], .int .i64 7, .int .i64 3] [some ⟨[.int .i64 2, .int .i64 0, .int .i64 3, .bool false, .int .i64 (-1), .int .i64 (-1), .int .i64 7, .int .i64 0, .int .i64 3, .bool false, .int .i64 (-1), .int .i64 (-1)], false, 6⟩] (.bool true) [none] := ac_due 4 10 [(2, 0, 3, false, -1, -1, ()), (7, 0, 3, false, -1, -1, ())] 2 rfl (by decide) 7 3 (by decide) true w_due
  have H4 := ac_oencode0 0 true ⟨#[]⟩ 0 0 0 [] 0 rfl (by decide) w_chk
  rw [w_enc] at H4
  refine acalls_of_aw Try.func11 rfl rfl ?_
  refine aw_ghost 1 rfl ?_
  repeat' first
    | refine st ?_
    | refine st_call (ac_sharedCell _) ?_
    | refine sd_call (ac_sharedCell _) ?_
    | refine stRW [1] H1 ?_
    | refine stRW [1] H2 ?_
    | refine stRW [1] H3 ?_
    | refine stRW [0] H4 ?_
    | refine sdRW [1] H1 ?_
    | refine sdRW [1] H2 ?_
    | refine sdRW [1] H3 ?_
    | refine sdRW [0] H4 ?_
    | refine stm ?_
    | refine run_want rfl rfl ?_
    | refine run_unwant rfl rfl ?_
    | refine run_undef rfl rfl ?_
    | refine run_guard1t rfl rfl (by omega) ?_
    | refine run_guard1f rfl rfl (by omega) ?_
    | refine run_guard0t rfl rfl (by omega) ?_
    | refine run_guard0f rfl rfl (by omega) ?_
    | refine run_guard1 rfl rfl (fun h1 => ?_) (fun h1 => ?_)
    | refine run_guard0 rfl rfl (fun h1 => ?_) (fun h1 => ?_)
    | refine run_guard rfl rfl (fun h1 => ?_) (fun h1 => ?_)
    | refine run_nil ?_
    | refine aw_seq ?_
    | refine aw_region (by kernel_rfl) (Nat.le_of_ble_eq_true rfl) ?_
    | refine aw_block ?_
    | refine aw_cond_t rfl ?_
    | refine aw_cond_f rfl ?_
    | refine aw_cond_tp rfl (by omega) ?_
    | refine aw_cond_fp rfl (by omega) ?_
    | refine aw_cond1 rfl (fun h1 => ?_) (fun h1 => ?_)
    | refine aw_cond rfl (fun h1 => ?_) (fun h1 => ?_)
    | refine aw_skip ?_
    | refine aw_exit ?_
    | refine aw_ret ?_
    | refine pp_ret ?_
    | refine pp_normal ?_
  all_goals first | exact pm_ret _ (renumD []) rfl | (exfalso; omega) | (exfalso; simp_all; done)
end Go.Proofs.Ytfabgdignlfihaa
