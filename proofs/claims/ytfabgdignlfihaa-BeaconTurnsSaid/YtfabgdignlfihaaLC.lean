/- BeaconTurns: the law. -/
import Derived.Test.YtfabgdignlfihaaLZ
import Derived.Test.YtfabgdignlfihaaK3
import Derived.Test.YtfabgdignlfihaaK5
import Derived.Test.YtfabgdignlfihaaK6
set_option linter.unusedVariables false
set_option linter.unusedSimpArgs false
namespace Go.Proofs.Ytfabgdignlfihaa
open Go Av
set_option maxRecDepth 20000
theorem ac_fewcells (n : Int) : ACalls Try.prog 50 [.int .i64 n] [] (.bool (decide (n ≤ 40 ∨ (512 < n ∧ n ≤ 516)))) [] := by
  refine acalls_pure Try.func50 rfl rfl rfl ?_
  repeat' first
    | refine st ?_
    | refine stm ?_
    | refine run_want rfl rfl ?_
    | refine run_unwant rfl rfl ?_
    | refine run_undef rfl rfl ?_
    | refine run_guard1t rfl rfl (by omega) ?_
    | refine run_guard1f rfl rfl (by omega) ?_
    | refine run_guard0t rfl rfl (by omega) ?_
    | refine run_guard0f rfl rfl (by omega) ?_
    | refine run_guard1 rfl rfl (fun h1 => ?_) (fun h1 => ?_)
    | refine run_guard0 rfl rfl (fun h1 => ?_) (fun h1 => ?_)
    | refine run_guard rfl rfl (fun h1 => ?_) (fun h1 => ?_)
    | refine run_nil ?_
    | refine aw_seq ?_
    | refine aw_region (by kernel_rfl) (Nat.le_of_ble_eq_true rfl) ?_
    | refine aw_block ?_
    | refine aw_cond_t rfl ?_
    | refine aw_cond_f rfl ?_
    | refine aw_cond_tp rfl (by omega) ?_
    | refine aw_cond_fp rfl (by omega) ?_
    | refine aw_cond1 rfl (fun h1 => ?_) (fun h1 => ?_)
    | refine aw_cond rfl (fun h1 => ?_) (fun h1 => ?_)
    | refine aw_skip ?_
    | refine aw_exit ?_
    | refine aw_ret ?_
    | refine pp_ret ?_
    | refine pp_normal ?_
  all_goals first
    | rfl
    | (show Value.bool _ = Value.bool _; congr 1; first | exact decide_eq_false (by omega) | exact decide_eq_true (by omega) | exact (decide_eq_false (by omega)).symm | exact (decide_eq_true (by omega)).symm | exact decide_eq_decide.2 (by omega))
    | (exfalso; omega)
    | (exfalso; simp only [Bool.not_eq_true', Bool.not_eq_false', decide_eq_true_eq, decide_eq_false_iff_not, Bool.not_false, Bool.not_true] at *; omega)
    | (exfalso; simp_all; first | done | omega)
theorem ac_tfew (node len : Int) (n : Nat) : ACalls Try.prog 17 [.agg #[.int .i64 node, .int .i64 len, .slice (some ⟨0, 0, none⟩) n n]] [none] (.bool (decide (((n : Int) ≤ 40 ∨ (512 < (n : Int) ∧ (n : Int) ≤ 516)) ∧ (len ≤ 64 ∨ 512 < len)))) [none] := by
  have H := ac_fewcells n
  refine acalls_law Try.func17 rfl rfl rfl ?_
  repeat' first
    | refine st ?_
    | refine st_call (H) ?_
    | refine sd_call (H) ?_
    | refine stm ?_
    | refine run_want rfl rfl ?_
    | refine run_unwant rfl rfl ?_
    | refine run_undef rfl rfl ?_
    | refine run_guard1t rfl rfl (by omega) ?_
    | refine run_guard1f rfl rfl (by omega) ?_
    | refine run_guard0t rfl rfl (by omega) ?_
    | refine run_guard0f rfl rfl (by omega) ?_
    | refine run_guard1 rfl rfl (fun h1 => ?_) (fun h1 => ?_)
    | refine run_guard0 rfl rfl (fun h1 => ?_) (fun h1 => ?_)
    | refine run_guard rfl rfl (fun h1 => ?_) (fun h1 => ?_)
    | refine run_nil ?_
    | refine aw_seq ?_
    | refine aw_region (by kernel_rfl) (Nat.le_of_ble_eq_true rfl) ?_
    | refine aw_block ?_
    | refine aw_cond_t rfl ?_
    | refine aw_cond_f rfl ?_
    | refine aw_cond_tp rfl (by omega) ?_
    | refine aw_cond_fp rfl (by omega) ?_
    | refine aw_cond1 rfl (fun h1 => ?_) (fun h1 => ?_)
    | refine aw_cond rfl (fun h1 => ?_) (fun h1 => ?_)
    | refine aw_skip ?_
    | refine aw_exit ?_
    | refine aw_ret ?_
    | refine pp_ret ?_
    | refine pp_normal ?_
  all_goals first
    | (exfalso; omega)
    | (exfalso; simp_all; done)
    | (exfalso; simp only [decide_eq_true_eq, decide_eq_false_iff_not] at *; omega)
    | (show Value.bool _ = Value.bool _; congr 1; (try simp only [decide_eq_true_eq, decide_eq_false_iff_not] at *); first | exact decide_eq_false (by omega) | exact decide_eq_true (by omega) | exact (decide_eq_false (by omega)).symm | exact (decide_eq_true (by omega)).symm | exact decide_eq_decide.2 (by omega))
set_option maxHeartbeats 4000000 in
theorem law_turns (node len : Int) (C : List Ce) (s t : Int) (hs : s ≤ 9223372036854775807) : ACalls Try.prog 4 [.agg #[.int .i64 node, .int .i64 len, .slice (some ⟨0, 0, none⟩) C.length C.length], .int .i64 s, .int .i64 t] [some ⟨C.flatMap tcC, false, 6⟩] (.bool true) [none] := by
  obtain ⟨n, hn⟩ : ∃ n, C.length = n := ⟨_, rfl⟩
  rw [hn]
  have HF := ac_tfew node len n
  by_cases hf : (((n : Int) ≤ 40 ∨ (512 < (n : Int) ∧ (n : Int) ≤ 516)) ∧ (len ≤ 64 ∨ 512 < len))
  · rw [decide_eq_true hf] at HF
    by_cases hg : (12 < len ∧ len ≤ 512) ∨ (8 < t ∧ t ≤ 32) ∨ 1099511627776 < s
    · refine acalls_law Try.func4 rfl rfl rfl ?_
      repeat' first
        | refine st (h := ok_not_dec2 rfl) ?_
        | refine sd (h := ok_not_dec2 rfl) ?_
        | refine st ?_
        | refine st_call (ac_awake) ?_
        | refine stRW [0] HF ?_
        | refine sdRW [0] HF ?_
        | refine stm ?_
        | refine run_want rfl rfl ?_
        | refine run_unwant rfl rfl ?_
        | refine run_undef rfl rfl ?_
        | refine run_guard1t rfl rfl (by omega) ?_
        | refine run_guard1f rfl rfl (by omega) ?_
        | refine run_guard0t rfl rfl (by omega) ?_
        | refine run_guard0f rfl rfl (by omega) ?_
        | refine run_guard1 rfl rfl (fun h1 => ?_) (fun h1 => ?_)
        | refine run_guard0 rfl rfl (fun h1 => ?_) (fun h1 => ?_)
        | refine run_guard rfl rfl (fun h1 => ?_) (fun h1 => ?_)
        | refine run_nil ?_
        | refine sd ?_
        | refine sdl ?_
        | refine sdm (n := 1) ?_
        | refine sdm ?_
        | refine sdb ?_
        | refine rund_want rfl rfl ?_
        | refine rund_unwant rfl rfl ?_
        | refine rund_undef rfl rfl ?_
        | refine rund_guard1 rfl rfl (fun h1 => ?_) (fun h1 => ?_)
        | refine rund_guard0 rfl rfl (fun h1 => ?_) (fun h1 => ?_)
        | refine rund_guard rfl rfl (fun h1 => ?_) (fun h1 => ?_)
        | refine rund_nil ?_
        | refine aw_seq ?_
        | refine aw_region (by kernel_rfl) (Nat.le_of_ble_eq_true rfl) ?_
        | refine aw_region_dC (id := 9) [0, 0, 3, 7, 15, 15, 63, 127, 255, 511, 511, 2047, 4095, 8191, 16383, 16383, 65535, 131071, 262143, 524287, 524287, 524287, 4194303, 524287, 524287, 524287, 67108863, 134217727, 268435455, 536870911] 30 (by (repeat constructor)) (by kernel_rfl) (by kernel_rfl) (by kernel_rfl) (by rfl) ?_
        | refine aw_block ?_
        | refine aw_cond_t rfl ?_
        | refine aw_cond_f rfl ?_
        | refine aw_cond_tp rfl (by omega) ?_
        | refine aw_cond_fp rfl (by omega) ?_
        | refine aw_cond1 rfl (fun h1 => ?_) (fun h1 => ?_)
        | refine aw_cond rfl (fun h1 => ?_) (fun h1 => ?_)
        | refine aw_skip ?_
        | refine aw_exit ?_
        | refine aw_ret ?_
        | refine pp_ret ?_
        | refine pp_normal ?_
      all_goals first
        | rfl
        | (exfalso; omega)
        | (simp [retOf]; done)
        | (exfalso; simp_all; done)
    · obtain ⟨p, z, h1⟩ : ∃ p z, turnR node len C s t = (p, z) := ⟨_, _, rfl⟩
      obtain ⟨q, y, h2⟩ : ∃ p z, nextR node len C s t = (p, z) := ⟨_, _, rfl⟩
      obtain ⟨x, h3⟩ : ∃ x, dueB node len C s t = x := ⟨_, rfl⟩
      have H1 := ac_turn node len C n hn (by omega) s t hs p z h1
      have H2 := ac_rturn node len C n hn (by omega) s t hs p z h1
      have H3 := ac_next node len C n hn (by omega) s t (by omega) q y h2
      have H4 := ac_rnext node len C n hn (by omega) s t (by omega) q y h2
      have H5 := ac_due node len C n hn (by omega) s t hs x h3
      have H6 := ac_rdue node len C n hn (by omega) s t hs x h3
      clear h1 h2 h3
      refine acalls_law Try.func4 rfl rfl rfl ?_
      repeat' first
        | refine st (h := ok_not_dec2 rfl) ?_
        | refine sd (h := ok_not_dec2 rfl) ?_
        | refine st ?_
        | refine st_call (ac_awake) ?_
        | refine stRW [0] HF ?_
        | refine sdRW [0] HF ?_
        | refine stRW [0] H1 ?_
        | refine stRW [0] H2 ?_
        | refine stRW [0] H3 ?_
        | refine stRW [0] H4 ?_
        | refine stRW [0] H5 ?_
        | refine stRW [0] H6 ?_
        | refine sdRW [0] H1 ?_
        | refine sdRW [0] H2 ?_
        | refine sdRW [0] H3 ?_
        | refine sdRW [0] H4 ?_
        | refine sdRW [0] H5 ?_
        | refine sdRW [0] H6 ?_
        | refine stm ?_
        | refine run_want rfl rfl ?_
        | refine run_unwant rfl rfl ?_
        | refine run_undef rfl rfl ?_
        | refine run_guard1t rfl rfl (by omega) ?_
        | refine run_guard1f rfl rfl (by omega) ?_
        | refine run_guard0t rfl rfl (by omega) ?_
        | refine run_guard0f rfl rfl (by omega) ?_
        | refine run_guard1 rfl rfl (fun h1 => ?_) (fun h1 => ?_)
        | refine run_guard0 rfl rfl (fun h1 => ?_) (fun h1 => ?_)
        | refine run_guard rfl rfl (fun h1 => ?_) (fun h1 => ?_)
        | refine run_nil ?_
        | refine sd ?_
        | refine sdl ?_
        | refine sdm (n := 1) ?_
        | refine sdm ?_
        | refine sdb ?_
        | refine rund_want rfl rfl ?_
        | refine rund_unwant rfl rfl ?_
        | refine rund_undef rfl rfl ?_
        | refine rund_guard1 rfl rfl (fun h1 => ?_) (fun h1 => ?_)
        | refine rund_guard0 rfl rfl (fun h1 => ?_) (fun h1 => ?_)
        | refine rund_guard rfl rfl (fun h1 => ?_) (fun h1 => ?_)
        | refine rund_nil ?_
        | refine aw_seq ?_
        | refine aw_region (by kernel_rfl) (Nat.le_of_ble_eq_true rfl) ?_
        | refine aw_region_dC (id := 9) [0, 0, 3, 7, 15, 15, 63, 127, 255, 511, 511, 2047, 4095, 8191, 16383, 16383, 65535, 131071, 262143, 524287, 524287, 524287, 4194303, 524287, 524287, 524287, 67108863, 134217727, 268435455, 536870911] 30 (by (repeat constructor)) (by kernel_rfl) (by kernel_rfl) (by kernel_rfl) (by rfl) ?_
        | refine aw_block ?_
        | refine aw_cond_t rfl ?_
        | refine aw_cond_f rfl ?_
        | refine aw_cond_tp rfl (by omega) ?_
        | refine aw_cond_fp rfl (by omega) ?_
        | refine aw_cond1 rfl (fun h1 => ?_) (fun h1 => ?_)
        | refine aw_cond rfl (fun h1 => ?_) (fun h1 => ?_)
        | refine aw_skip ?_
        | refine aw_exit ?_
        | refine aw_ret ?_
        | refine pp_ret ?_
        | refine pp_normal ?_
      all_goals first
        | rfl
        | (exfalso; omega)
        | (simp [retOf]; done)
        | (exfalso; simp_all; done)
  · rw [decide_eq_false hf] at HF
    refine acalls_law Try.func4 rfl rfl rfl ?_
    repeat' first
      | refine st (h := ok_not_dec2 rfl) ?_
      | refine sd (h := ok_not_dec2 rfl) ?_
      | refine st ?_
      | refine st_call (ac_awake) ?_
      | refine stRW [0] HF ?_
      | refine sdRW [0] HF ?_
      | refine stm ?_
      | refine run_want rfl rfl ?_
      | refine run_unwant rfl rfl ?_
      | refine run_undef rfl rfl ?_
      | refine run_guard1t rfl rfl (by omega) ?_
      | refine run_guard1f rfl rfl (by omega) ?_
      | refine run_guard0t rfl rfl (by omega) ?_
      | refine run_guard0f rfl rfl (by omega) ?_
      | refine run_guard1 rfl rfl (fun h1 => ?_) (fun h1 => ?_)
      | refine run_guard0 rfl rfl (fun h1 => ?_) (fun h1 => ?_)
      | refine run_guard rfl rfl (fun h1 => ?_) (fun h1 => ?_)
      | refine run_nil ?_
      | refine sd ?_
      | refine sdl ?_
      | refine sdm (n := 1) ?_
      | refine sdm ?_
      | refine sdb ?_
      | refine rund_want rfl rfl ?_
      | refine rund_unwant rfl rfl ?_
      | refine rund_undef rfl rfl ?_
      | refine rund_guard1 rfl rfl (fun h1 => ?_) (fun h1 => ?_)
      | refine rund_guard0 rfl rfl (fun h1 => ?_) (fun h1 => ?_)
      | refine rund_guard rfl rfl (fun h1 => ?_) (fun h1 => ?_)
      | refine rund_nil ?_
      | refine aw_seq ?_
      | refine aw_region (by kernel_rfl) (Nat.le_of_ble_eq_true rfl) ?_
      | refine aw_region_dC (id := 9) [0, 0, 3, 7, 15, 15, 63, 127, 255, 511, 511, 2047, 4095, 8191, 16383, 16383, 65535, 131071, 262143, 524287, 524287, 524287, 4194303, 524287, 524287, 524287, 67108863, 134217727, 268435455, 536870911] 30 (by (repeat constructor)) (by kernel_rfl) (by kernel_rfl) (by kernel_rfl) (by rfl) ?_
      | refine aw_block ?_
      | refine aw_cond_t rfl ?_
      | refine aw_cond_f rfl ?_
      | refine aw_cond_tp rfl (by omega) ?_
      | refine aw_cond_fp rfl (by omega) ?_
      | refine aw_cond1 rfl (fun h1 => ?_) (fun h1 => ?_)
      | refine aw_cond rfl (fun h1 => ?_) (fun h1 => ?_)
      | refine aw_skip ?_
      | refine aw_exit ?_
      | refine aw_ret ?_
      | refine pp_ret ?_
      | refine pp_normal ?_
    all_goals first
      | rfl
      | (exfalso; omega)
      | (simp [retOf]; done)
      | (exfalso; simp_all; done)
end Go.Proofs.Ytfabgdignlfihaa
