/- Tables of shared cells: Add. -/
import Derived.Test.YtfabgdignlfihaaQ3
import Derived.Test.YtfabgdignlfihaaI5
import Derived.Test.YtfabgdignlfihaaI3
set_option linter.unusedVariables false
set_option linter.unusedSimpArgs false
namespace Go.Proofs.Ytfabgdignlfihaa
open Go Av
set_option maxRecDepth 20000
set_option maxHeartbeats 4000000 in
theorem ac_addT (node len : Int) (C : List Ce) (n : Nat) (hn : C.length = n) (hb : n ≤ 511) (s : Int) (h0 : chkT node len C = 0) (h1 : formE node len (shc s) = 0) (h2 : takB C s 3 = true) : ACalls Try.prog 24 [.agg #[.int .i64 node, .int .i64 len, .slice (some ⟨0, 0, none⟩) n n], .agg #[.int .i64 s, .int .i64 0, .int .i64 3, .bool false, .int .i64 (-1), .int .i64 (-1)]] [some ⟨C.flatMap tcC, false, 6⟩] (.tuple #[.agg #[.int .i64 0, .int .i64 0, .slice (some ⟨1, 0, none⟩) 0 0], .int .i64 16]) [none, some ⟨[], true, 6⟩] := by
  have H1 := ac_rtcheck node len C n hn (by omega) 0 h0
  have H2 : ACalls Try.prog 56 [.agg #[.int .i64 node, .int .i64 len, .slice (some ⟨0, 0, none⟩) n n], .agg #[.int .i64 s, .int .i64 0, .int .i64 3, .bool false, .int .i64 (-1), .int .i64 (-1)]] [none] (.int .i64 0) [none] := ac_cell node len n s 0 3 (-1) (-1) false 0 h1
  have H3 := ac_taken C n hn (by omega) s 3 true h2
  have H4 : ACalls Try.prog 58 [.slice (some ⟨0, 0, none⟩) n n, .agg #[.int .i64 s, .int .i64 0, .int .i64 3, .bool false, .int .i64 (-1), .int .i64 (-1)]] [some ⟨C.flatMap tcC, false, 6⟩] (.slice (some ⟨1, 0, none⟩) (n + 1) (n + 1)) [none, some ⟨(putC (shc s) C).flatMap tcC, true, 6⟩] := ac_putT C n hn (by omega) s 0 3 (-1) (-1) false
  clear h0 h1 h2
  refine acalls_of_aw Try.func24 rfl rfl ?_
  refine aw_ghost 6 rfl ?_
  repeat' first
    | refine st ?_
    | refine st_call (H2) ?_
    | refine sd_call (H2) ?_
    | refine stRW [0] H2 ?_
    | refine stRW [0] H1 ?_
    | refine stRW [0] H3 ?_
    | refine stm ?_
    | refine run_want rfl rfl ?_
    | refine run_unwant rfl rfl ?_
    | refine run_undef rfl rfl ?_
    | refine run_guard1t rfl rfl (by omega) ?_
    | refine run_guard1f rfl rfl (by omega) ?_
    | refine run_guard0t rfl rfl (by omega) ?_
    | refine run_guard0f rfl rfl (by omega) ?_
    | refine run_guard1 rfl rfl (fun h1 => ?_) (fun h1 => ?_)
    | refine run_guard0 rfl rfl (fun h1 => ?_) (fun h1 => ?_)
    | refine run_guard rfl rfl (fun h1 => ?_) (fun h1 => ?_)
    | refine run_nil ?_
    | refine sd ?_
    | refine sdl ?_
    | refine sdm (n := 1) ?_
    | refine sdm ?_
    | refine sdb ?_
    | refine rund_want rfl rfl ?_
    | refine rund_unwant rfl rfl ?_
    | refine rund_undef rfl rfl ?_
    | refine rund_guard1 rfl rfl (fun h1 => ?_) (fun h1 => ?_)
    | refine rund_guard0 rfl rfl (fun h1 => ?_) (fun h1 => ?_)
    | refine rund_guard rfl rfl (fun h1 => ?_) (fun h1 => ?_)
    | refine rund_nil ?_
    | refine aw_seq ?_
    | refine aw_region (by kernel_rfl) (Nat.le_of_ble_eq_true rfl) ?_
    | refine aw_region_dC (id := 10) [0, 1, 0, 4, 0, 16, 0, 112, 255, 511, 1023] 9 (by (repeat constructor)) (by kernel_rfl) (by kernel_rfl) (by kernel_rfl) (by rfl) ?_
    | refine aw_block ?_
    | refine aw_cond_t rfl ?_
    | refine aw_cond_f rfl ?_
    | refine aw_cond_tp rfl (by omega) ?_
    | refine aw_cond_fp rfl (by omega) ?_
    | refine aw_cond1 rfl (fun h1 => ?_) (fun h1 => ?_)
    | refine aw_cond rfl (fun h1 => ?_) (fun h1 => ?_)
    | refine aw_skip ?_
    | refine aw_exit ?_
    | refine aw_ret ?_
    | refine pp_ret ?_
    | refine pp_normal ?_
  all_goals first | (refine pmw_ret _ (renumA [0, 1]) ?_; exact Wk.tupleL (.cons (Wk.aggL (.cons (.refl _) (.cons (.refl _) (.cons .nil .nil)))) (.cons (.refl _) .nil))) | (exfalso; omega) | (exfalso; simp_all; done)
set_option maxHeartbeats 4000000 in
theorem ac_addP (node len : Int) (C : List Ce) (n : Nat) (hn : C.length = n) (hb : n ≤ 511) (s : Int) (h0 : chkT node len C = 0) (h1 : formE node len (shc s) = 0) (h2 : takB C s 3 = false) : ACalls Try.prog 24 [.agg #[.int .i64 node, .int .i64 len, .slice (some ⟨0, 0, none⟩) n n], .agg #[.int .i64 s, .int .i64 0, .int .i64 3, .bool false, .int .i64 (-1), .int .i64 (-1)]] [some ⟨C.flatMap tcC, false, 6⟩] (.tuple #[.agg #[.int .i64 node, .int .i64 len, .slice (some ⟨1, 0, none⟩) (n + 1) (n + 1)], .int .i64 0]) [none, some ⟨(putC (shc s) C).flatMap tcC, true, 6⟩] := by
  have H1 := ac_rtcheck node len C n hn (by omega) 0 h0
  have H2 : ACalls Try.prog 56 [.agg #[.int .i64 node, .int .i64 len, .slice (some ⟨0, 0, none⟩) n n], .agg #[.int .i64 s, .int .i64 0, .int .i64 3, .bool false, .int .i64 (-1), .int .i64 (-1)]] [none] (.int .i64 0) [none] := ac_cell node len n s 0 3 (-1) (-1) false 0 h1
  have H3 := ac_taken C n hn (by omega) s 3 false h2
  have H4 : ACalls Try.prog 58 [.slice (some ⟨0, 0, none⟩) n n, .agg #[.int .i64 s, .int .i64 0, .int .i64 3, .bool false, .int .i64 (-1), .int .i64 (-1)]] [some ⟨C.flatMap tcC, false, 6⟩] (.slice (some ⟨1, 0, none⟩) (n + 1) (n + 1)) [none, some ⟨(putC (shc s) C).flatMap tcC, true, 6⟩] := ac_putT C n hn (by omega) s 0 3 (-1) (-1) false
  clear h0 h1 h2
  refine acalls_of_aw Try.func24 rfl rfl ?_
  repeat' first
    | refine st ?_
    | refine st_call (H2) ?_
    | refine sd_call (H2) ?_
    | refine stRW [0] H2 ?_
    | refine stRW [0] H1 ?_
    | refine stRW [0] H3 ?_
    | refine sdNR (r' := .slice (some ⟨4, 0, none⟩) (n + 1) (n + 1)) (N := [some ⟨(putC (shc s) C).flatMap tcC, true, 6⟩]) [0] 1 H4 ?_
    | refine stm ?_
    | refine run_want rfl rfl ?_
    | refine run_unwant rfl rfl ?_
    | refine run_undef rfl rfl ?_
    | refine run_guard1t rfl rfl (by omega) ?_
    | refine run_guard1f rfl rfl (by omega) ?_
    | refine run_guard0t rfl rfl (by omega) ?_
    | refine run_guard0f rfl rfl (by omega) ?_
    | refine run_guard1 rfl rfl (fun h1 => ?_) (fun h1 => ?_)
    | refine run_guard0 rfl rfl (fun h1 => ?_) (fun h1 => ?_)
    | refine run_guard rfl rfl (fun h1 => ?_) (fun h1 => ?_)
    | refine run_nil ?_
    | refine sd ?_
    | refine sdl ?_
    | refine sdm (n := 1) ?_
    | refine sdm ?_
    | refine sdb ?_
    | refine rund_want rfl rfl ?_
    | refine rund_unwant rfl rfl ?_
    | refine rund_undef rfl rfl ?_
    | refine rund_guard1 rfl rfl (fun h1 => ?_) (fun h1 => ?_)
    | refine rund_guard0 rfl rfl (fun h1 => ?_) (fun h1 => ?_)
    | refine rund_guard rfl rfl (fun h1 => ?_) (fun h1 => ?_)
    | refine rund_nil ?_
    | refine aw_seq ?_
    | refine aw_region (by kernel_rfl) (Nat.le_of_ble_eq_true rfl) ?_
    | refine aw_region_dC (id := 10) [0, 1, 0, 4, 0, 16, 0, 112, 255, 511, 1023] 9 (by (repeat constructor)) (by kernel_rfl) (by kernel_rfl) (by kernel_rfl) (by rfl) ?_
    | refine aw_block ?_
    | refine aw_cond_t rfl ?_
    | refine aw_cond_f rfl ?_
    | refine aw_cond_tp rfl (by omega) ?_
    | refine aw_cond_fp rfl (by omega) ?_
    | refine aw_cond1 rfl (fun h1 => ?_) (fun h1 => ?_)
    | refine aw_cond rfl (fun h1 => ?_) (fun h1 => ?_)
    | refine aw_skip ?_
    | refine aw_exit ?_
    | refine aw_ret ?_
    | refine pp_ret ?_
    | refine pp_normal ?_
  all_goals first | exact pm_ret _ (renumD [0, 4]) rfl | (exfalso; omega) | (exfalso; simp_all; done)
end Go.Proofs.Ytfabgdignlfihaa
