/- Tables: checked by the reference. -/
import Derived.Test.YtfabgdignlfihaaI3
set_option linter.unusedVariables false
set_option linter.unusedSimpArgs false
namespace Go.Proofs.Ytfabgdignlfihaa
open Go Av
set_option maxRecDepth 20000
set_option maxHeartbeats 8000000 in
theorem ac_rtcheck (node len : Int) (C : List Ce) (n : Nat) (hn : C.length = n) (hb : n ≤ 9000000000000000000) (x : Int) (hx : chkT node len C = x) : ACalls Try.prog 53 [.agg #[.int .i64 node, .int .i64 len, .slice (some ⟨0, 0, none⟩) n n]] [some ⟨C.flatMap tcC, false, 6⟩] (.int .i64 x) [none] := by
  unfold chkT at hx
  rw [hn] at hx
  have HN := ac_node node
  by_cases h1 : node < 0 ∨ 32 ≤ node ∨ len < 1 ∨ 512 < len
  · obtain rfl : x = 2 := by rw [← hx]; exact if_pos h1
    clear hx
    refine acalls_law Try.func53 rfl rfl rfl ?_
    repeat' first
      | refine st (h := ok_not_dec2 rfl) ?_
      | refine sd (h := ok_not_dec2 rfl) ?_
      | refine st ?_
      | refine st_call (HN) ?_
      | refine sd_call (HN) ?_
      | refine stm ?_
      | refine run_want rfl rfl ?_
      | refine run_unwant rfl rfl ?_
      | refine run_undef rfl rfl ?_
      | refine run_guard1t rfl rfl (by omega) ?_
      | refine run_guard1f rfl rfl (by omega) ?_
      | refine run_guard0t rfl rfl (by omega) ?_
      | refine run_guard0f rfl rfl (by omega) ?_
      | refine run_guard1 rfl rfl (fun h1 => ?_) (fun h1 => ?_)
      | refine run_guard0 rfl rfl (fun h1 => ?_) (fun h1 => ?_)
      | refine run_guard rfl rfl (fun h1 => ?_) (fun h1 => ?_)
      | refine run_nil ?_
      | refine sd ?_
      | refine sdl ?_
      | refine sdm (n := 1) ?_
      | refine sdm ?_
      | refine sdb ?_
      | refine rund_want rfl rfl ?_
      | refine rund_unwant rfl rfl ?_
      | refine rund_undef rfl rfl ?_
      | refine rund_guard1 rfl rfl (fun h1 => ?_) (fun h1 => ?_)
      | refine rund_guard0 rfl rfl (fun h1 => ?_) (fun h1 => ?_)
      | refine rund_guard rfl rfl (fun h1 => ?_) (fun h1 => ?_)
      | refine rund_nil ?_
      | refine aw_seq ?_
      | refine aw_region (by kernel_rfl) (Nat.le_of_ble_eq_true rfl) ?_
      | refine aw_region_dC (id := 8) [0, 0, 2, 0, 14, 30, 63, 127] 8 (by (repeat constructor)) (by kernel_rfl) (by kernel_rfl) (by kernel_rfl) (by rfl) ?_
      | refine aw_region_dC (id := 11) [0, 1, 3, 7, 15, 7, 39, 127, 255, 7, 519, 7, 3591, 7687, 16383, 32767, 65535] 17 (by (repeat constructor)) (by kernel_rfl) (by kernel_rfl) (by kernel_rfl) (by rfl) ?_
      | refine aw_block ?_
      | refine aw_cond_t rfl ?_
      | refine aw_cond_f rfl ?_
      | refine aw_cond_tp rfl (by omega) ?_
      | refine aw_cond_fp rfl (by omega) ?_
      | refine aw_cond1 rfl (fun h1 => ?_) (fun h1 => ?_)
      | refine aw_cond rfl (fun h1 => ?_) (fun h1 => ?_)
      | refine aw_skip ?_
      | refine aw_exit ?_
      | refine aw_ret ?_
      | refine pp_ret ?_
      | refine pp_normal ?_
    all_goals first
      | rfl
      | (exfalso; omega)
      | (exfalso; simp only [Bool.not_eq_true', Bool.not_eq_false', decide_eq_true_eq, decide_eq_false_iff_not, Bool.not_false, Bool.not_true] at *; omega)
      | (exfalso; simp_all; first | done | omega)
  · rw [if_neg h1] at hx
    by_cases h2 : 512 < n
    · obtain rfl : x = 8 := by rw [← hx]; exact if_pos h2
      clear hx
      refine acalls_law Try.func53 rfl rfl rfl ?_
      repeat' first
        | refine st (h := ok_not_dec2 rfl) ?_
        | refine sd (h := ok_not_dec2 rfl) ?_
        | refine st ?_
        | refine st_call (HN) ?_
        | refine sd_call (HN) ?_
        | refine stm ?_
        | refine run_want rfl rfl ?_
        | refine run_unwant rfl rfl ?_
        | refine run_undef rfl rfl ?_
        | refine run_guard1t rfl rfl (by omega) ?_
        | refine run_guard1f rfl rfl (by omega) ?_
        | refine run_guard0t rfl rfl (by omega) ?_
        | refine run_guard0f rfl rfl (by omega) ?_
        | refine run_guard1 rfl rfl (fun h1 => ?_) (fun h1 => ?_)
        | refine run_guard0 rfl rfl (fun h1 => ?_) (fun h1 => ?_)
        | refine run_guard rfl rfl (fun h1 => ?_) (fun h1 => ?_)
        | refine run_nil ?_
        | refine sd ?_
        | refine sdl ?_
        | refine sdm (n := 1) ?_
        | refine sdm ?_
        | refine sdb ?_
        | refine rund_want rfl rfl ?_
        | refine rund_unwant rfl rfl ?_
        | refine rund_undef rfl rfl ?_
        | refine rund_guard1 rfl rfl (fun h1 => ?_) (fun h1 => ?_)
        | refine rund_guard0 rfl rfl (fun h1 => ?_) (fun h1 => ?_)
        | refine rund_guard rfl rfl (fun h1 => ?_) (fun h1 => ?_)
        | refine rund_nil ?_
        | refine aw_seq ?_
        | refine aw_region (by kernel_rfl) (Nat.le_of_ble_eq_true rfl) ?_
        | refine aw_region_dC (id := 8) [0, 0, 2, 0, 14, 30, 63, 127] 8 (by (repeat constructor)) (by kernel_rfl) (by kernel_rfl) (by kernel_rfl) (by rfl) ?_
        | refine aw_region_dC (id := 11) [0, 1, 3, 7, 15, 7, 39, 127, 255, 7, 519, 7, 3591, 7687, 16383, 32767, 65535] 17 (by (repeat constructor)) (by kernel_rfl) (by kernel_rfl) (by kernel_rfl) (by rfl) ?_
        | refine aw_block ?_
        | refine aw_cond_t rfl ?_
        | refine aw_cond_f rfl ?_
        | refine aw_cond_tp rfl (by omega) ?_
        | refine aw_cond_fp rfl (by omega) ?_
        | refine aw_cond1 rfl (fun h1 => ?_) (fun h1 => ?_)
        | refine aw_cond rfl (fun h1 => ?_) (fun h1 => ?_)
        | refine aw_skip ?_
        | refine aw_exit ?_
        | refine aw_ret ?_
        | refine pp_ret ?_
        | refine pp_normal ?_
      all_goals first
        | rfl
        | (exfalso; omega)
        | (exfalso; simp only [Bool.not_eq_true', Bool.not_eq_false', decide_eq_true_eq, decide_eq_false_iff_not, Bool.not_false, Bool.not_true] at *; omega)
        | (exfalso; simp_all; first | done | omega)
    · rw [if_neg h2] at hx
      refine acalls_law Try.func53 rfl rfl rfl ?_
      repeat' first
        | refine st (h := ok_not_dec2 rfl) ?_
        | refine sd (h := ok_not_dec2 rfl) ?_
        | refine st ?_
        | refine st_call (HN) ?_
        | refine sd_call (HN) ?_
        | refine stm ?_
        | refine run_want rfl rfl ?_
        | refine run_unwant rfl rfl ?_
        | refine run_undef rfl rfl ?_
        | refine run_guard1t rfl rfl (by omega) ?_
        | refine run_guard1f rfl rfl (by omega) ?_
        | refine run_guard0t rfl rfl (by omega) ?_
        | refine run_guard0f rfl rfl (by omega) ?_
        | refine run_guard1 rfl rfl (fun h1 => ?_) (fun h1 => ?_)
        | refine run_guard0 rfl rfl (fun h1 => ?_) (fun h1 => ?_)
        | refine run_guard rfl rfl (fun h1 => ?_) (fun h1 => ?_)
        | refine run_nil ?_
        | refine sd ?_
        | refine sdl ?_
        | refine sdm (n := 1) ?_
        | refine sdm ?_
        | refine sdb ?_
        | refine rund_want rfl rfl ?_
        | refine rund_unwant rfl rfl ?_
        | refine rund_undef rfl rfl ?_
        | refine rund_guard1 rfl rfl (fun h1 => ?_) (fun h1 => ?_)
        | refine rund_guard0 rfl rfl (fun h1 => ?_) (fun h1 => ?_)
        | refine rund_guard rfl rfl (fun h1 => ?_) (fun h1 => ?_)
        | refine rund_nil ?_
        | refine aw_seq ?_
        | refine aw_region (by kernel_rfl) (Nat.le_of_ble_eq_true rfl) ?_
        | refine aw_region_dC (id := 8) [0, 0, 2, 0, 14, 30, 63, 127] 8 (by (repeat constructor)) (by kernel_rfl) (by kernel_rfl) (by kernel_rfl) (by rfl) ?_
        | refine aw_region_dC (id := 11) [0, 1, 3, 7, 15, 7, 39, 127, 255, 7, 519, 7, 3591, 7687, 16383, 32767, 65535] 17 (by (repeat constructor)) (by kernel_rfl) (by kernel_rfl) (by kernel_rfl) (by rfl) ?_
        | refine aw_block ?_
        | refine aw_cond_t rfl ?_
        | refine aw_cond_f rfl ?_
        | refine aw_cond_tp rfl (by omega) ?_
        | refine aw_cond_fp rfl (by omega) ?_
        | refine aw_cond1 rfl (fun h1 => ?_) (fun h1 => ?_)
        | refine aw_cond rfl (fun h1 => ?_) (fun h1 => ?_)
        | refine aw_skip ?_
        | refine aw_exit ?_
        | refine aw_ret ?_
        | refine pp_ret ?_
        | refine pp_normal ?_
      clear HN
      refine aw_loopg
        (S := fun y : Og => [(1, .pointer (some ⟨1, 0, none⟩)), (3, .int .i64 y.i)])
        (B := fun _ : Og => [some ⟨C.flatMap tcC, false, 6⟩, some ⟨[.int .i64 node, .int .i64 len, .slice (some ⟨0, 0, none⟩) n n], true, 1⟩])
        (R := fun y : Og => y.i ≤ n ∧ ceI node len C y.i = 0)
        (μ := fun y : Og => n - y.i) ⟨0⟩ (fitsD [0, 1]) ⟨Nat.zero_le _, rfl⟩ ?_
      rintro ⟨i⟩ ⟨g1, g2⟩
      dsimp only at *
      by_cases hi : i < n
      · obtain ⟨⟨sl, of, k, sd_, pe, fl, u⟩, hq⟩ : ∃ q, C[i]? = some q := ⟨_, List.getElem?_eq_getElem (by omega)⟩
        have hat := ceI_at hq g2
        obtain ⟨y, hy⟩ : ∃ y, formE node len (sl, of, k, sd_, pe, fl, u) = y := ⟨_, rfl⟩
        have HF := ac_cell node len n sl of k pe fl sd_ y hy
        rw [hy] at hat
        by_cases hy0 : y = 0
        · subst hy0
          rw [if_neg (by simp)] at hat
          by_cases hi0 : i = 0
          · rw [if_neg (fun h => absurd h.1 (by omega))] at hat
            repeat' first
              | refine st (h := ok_not_dec2 rfl) ?_
              | refine sd (h := ok_not_dec2 rfl) ?_
              | refine st (h := ok_load_rowsE (f := tcC) (cs := [.int .i64 sl, .int .i64 of, .int .i64 k, .bool sd_, .int .i64 pe, .int .i64 fl]) (i) (fun _ => rfl) hq rfl rfl rfl rfl (by omega)) ?_
              | refine sdl (h := ok_load_rowsE (f := tcC) (cs := [.int .i64 sl, .int .i64 of, .int .i64 k, .bool sd_, .int .i64 pe, .int .i64 fl]) (i) (fun _ => rfl) hq rfl rfl rfl rfl (by omega)) ?_
              | refine st ?_
              | refine st_call (HF) ?_
              | refine sd_call (HF) ?_
              | refine stRW [0] HF ?_
              | refine sdRW [0] HF ?_
              | refine stm ?_
              | refine run_want rfl rfl ?_
              | refine run_unwant rfl rfl ?_
              | refine run_undef rfl rfl ?_
              | refine run_guard1t rfl rfl (by omega) ?_
              | refine run_guard1f rfl rfl (by omega) ?_
              | refine run_guard0t rfl rfl (by omega) ?_
              | refine run_guard0f rfl rfl (by omega) ?_
              | refine run_guard1 rfl rfl (fun h1 => ?_) (fun h1 => ?_)
              | refine run_guard0 rfl rfl (fun h1 => ?_) (fun h1 => ?_)
              | refine run_guard rfl rfl (fun h1 => ?_) (fun h1 => ?_)
              | refine run_nil ?_
              | refine sd ?_
              | refine sdl ?_
              | refine sdm (n := 1) ?_
              | refine sdm ?_
              | refine sdb ?_
              | refine rund_want rfl rfl ?_
              | refine rund_unwant rfl rfl ?_
              | refine rund_undef rfl rfl ?_
              | refine rund_guard1 rfl rfl (fun h1 => ?_) (fun h1 => ?_)
              | refine rund_guard0 rfl rfl (fun h1 => ?_) (fun h1 => ?_)
              | refine rund_guard rfl rfl (fun h1 => ?_) (fun h1 => ?_)
              | refine rund_nil ?_
              | refine aw_seq ?_
              | refine aw_region (by kernel_rfl) (Nat.le_of_ble_eq_true rfl) ?_
              | refine aw_region_dC (id := 8) [0, 0, 2, 0, 14, 30, 63, 127] 8 (by (repeat constructor)) (by kernel_rfl) (by kernel_rfl) (by kernel_rfl) (by rfl) ?_
              | refine aw_region_dC (id := 11) [0, 1, 3, 7, 15, 7, 39, 127, 255, 7, 519, 7, 3591, 7687, 16383, 32767, 65535] 17 (by (repeat constructor)) (by kernel_rfl) (by kernel_rfl) (by kernel_rfl) (by rfl) ?_
              | refine aw_block ?_
              | refine aw_cond_t rfl ?_
              | refine aw_cond_f rfl ?_
              | refine aw_cond_tp rfl (by omega) ?_
              | refine aw_cond_fp rfl (by omega) ?_
              | refine aw_cond1 rfl (fun h1 => ?_) (fun h1 => ?_)
              | refine aw_cond rfl (fun h1 => ?_) (fun h1 => ?_)
              | refine aw_skip ?_
              | refine aw_exit ?_
              | refine aw_ret ?_
              | refine pp_ret ?_
              | refine pp_normal ?_
            all_goals first | exact Exists.intro ⟨i + 1⟩ ⟨fitsD [0, 1], ⟨hi, hat⟩, by dsimp only; omega⟩ | (exfalso; omega)
          · obtain ⟨⟨sl', of', k', sd', pe', fl', u'⟩, hp⟩ : ∃ q, C[i - 1]? = some q := ⟨_, List.getElem?_eq_getElem (by omega)⟩
            rw [show C.getD (i - 1) (0, 0, 0, false, 0, 0, ()) = (sl', of', k', sd', pe', fl', u') by rw [List.getD_eq_getElem?_getD, hp]; rfl] at hat
            obtain ⟨w, hw⟩ : ∃ w, lessC (sl', of', k', sd', pe', fl', u') (sl, of, k, sd_, pe, fl, u) = w := ⟨_, rfl⟩
            rw [hw] at hat
            have HC := ac_less sl' of' k' pe' fl' sl of k pe fl sd' sd_ w hw
            cases w
            · rw [if_pos ⟨by omega, rfl⟩] at hat
              obtain rfl : x = 5 := by
                have := ceI_end (node := node) (len := len) (C := C) (i := i + 1) (by omega) (by rw [hat]; simp)
                rw [← hx, ← hn, this, hat]
              skip
              repeat' first
                | refine st (h := ok_not_dec2 rfl) ?_
                | refine sd (h := ok_not_dec2 rfl) ?_
                | refine st (h := ok_load_rowsE (f := tcC) (cs := [.int .i64 sl, .int .i64 of, .int .i64 k, .bool sd_, .int .i64 pe, .int .i64 fl]) (i) (fun _ => rfl) hq rfl rfl rfl rfl (by omega)) ?_
                | refine sdl (h := ok_load_rowsE (f := tcC) (cs := [.int .i64 sl, .int .i64 of, .int .i64 k, .bool sd_, .int .i64 pe, .int .i64 fl]) (i) (fun _ => rfl) hq rfl rfl rfl rfl (by omega)) ?_
                | refine sdl (h := ok_load_rowsE (f := tcC) (cs := [.int .i64 sl', .int .i64 of', .int .i64 k', .bool sd', .int .i64 pe', .int .i64 fl']) (i - 1) (fun _ => rfl) hp rfl rfl rfl rfl (by omega)) ?_
                | refine st (h := ok_load_rowsE (f := tcC) (cs := [.int .i64 sl', .int .i64 of', .int .i64 k', .bool sd', .int .i64 pe', .int .i64 fl']) (i - 1) (fun _ => rfl) hp rfl rfl rfl rfl (by omega)) ?_
                | refine st ?_
                | refine st_call (HF) ?_
                | refine st_call (HC) ?_
                | refine sd_call (HF) ?_
                | refine sd_call (HC) ?_
                | refine stRW [0] HF ?_
                | refine sdRW [0] HF ?_
                | refine stm ?_
                | refine run_want rfl rfl ?_
                | refine run_unwant rfl rfl ?_
                | refine run_undef rfl rfl ?_
                | refine run_guard1t rfl rfl (by omega) ?_
                | refine run_guard1f rfl rfl (by omega) ?_
                | refine run_guard0t rfl rfl (by omega) ?_
                | refine run_guard0f rfl rfl (by omega) ?_
                | refine run_guard1 rfl rfl (fun h1 => ?_) (fun h1 => ?_)
                | refine run_guard0 rfl rfl (fun h1 => ?_) (fun h1 => ?_)
                | refine run_guard rfl rfl (fun h1 => ?_) (fun h1 => ?_)
                | refine run_nil ?_
                | refine sd ?_
                | refine sdl ?_
                | refine sdm (n := 1) ?_
                | refine sdm ?_
                | refine sdb ?_
                | refine rund_want rfl rfl ?_
                | refine rund_unwant rfl rfl ?_
                | refine rund_undef rfl rfl ?_
                | refine rund_guard1 rfl rfl (fun h1 => ?_) (fun h1 => ?_)
                | refine rund_guard0 rfl rfl (fun h1 => ?_) (fun h1 => ?_)
                | refine rund_guard rfl rfl (fun h1 => ?_) (fun h1 => ?_)
                | refine rund_nil ?_
                | refine aw_seq ?_
                | refine aw_region (by kernel_rfl) (Nat.le_of_ble_eq_true rfl) ?_
                | refine aw_region_dC (id := 8) [0, 0, 2, 0, 14, 30, 63, 127] 8 (by (repeat constructor)) (by kernel_rfl) (by kernel_rfl) (by kernel_rfl) (by rfl) ?_
                | refine aw_region_dC (id := 11) [0, 1, 3, 7, 15, 7, 39, 127, 255, 7, 519, 7, 3591, 7687, 16383, 32767, 65535] 17 (by (repeat constructor)) (by kernel_rfl) (by kernel_rfl) (by kernel_rfl) (by rfl) ?_
                | refine aw_block ?_
                | refine aw_cond_t rfl ?_
                | refine aw_cond_f rfl ?_
                | refine aw_cond_tp rfl (by omega) ?_
                | refine aw_cond_fp rfl (by omega) ?_
                | refine aw_cond1 rfl (fun h1 => ?_) (fun h1 => ?_)
                | refine aw_cond rfl (fun h1 => ?_) (fun h1 => ?_)
                | refine aw_skip ?_
                | refine aw_exit ?_
                | refine aw_ret ?_
                | refine pp_ret ?_
                | refine pp_normal ?_
              all_goals first
                | rfl
                | (exfalso; omega)
                | (exfalso; simp only [Bool.not_eq_true', Bool.not_eq_false', decide_eq_true_eq, decide_eq_false_iff_not, Bool.not_false, Bool.not_true] at *; omega)
                | (exfalso; simp_all; first | done | omega)
            · rw [if_neg (by simp)] at hat
              skip
              repeat' first
                | refine st (h := ok_not_dec2 rfl) ?_
                | refine sd (h := ok_not_dec2 rfl) ?_
                | refine st (h := ok_load_rowsE (f := tcC) (cs := [.int .i64 sl, .int .i64 of, .int .i64 k, .bool sd_, .int .i64 pe, .int .i64 fl]) (i) (fun _ => rfl) hq rfl rfl rfl rfl (by omega)) ?_
                | refine sdl (h := ok_load_rowsE (f := tcC) (cs := [.int .i64 sl, .int .i64 of, .int .i64 k, .bool sd_, .int .i64 pe, .int .i64 fl]) (i) (fun _ => rfl) hq rfl rfl rfl rfl (by omega)) ?_
                | refine sdl (h := ok_load_rowsE (f := tcC) (cs := [.int .i64 sl', .int .i64 of', .int .i64 k', .bool sd', .int .i64 pe', .int .i64 fl']) (i - 1) (fun _ => rfl) hp rfl rfl rfl rfl (by omega)) ?_
                | refine st (h := ok_load_rowsE (f := tcC) (cs := [.int .i64 sl', .int .i64 of', .int .i64 k', .bool sd', .int .i64 pe', .int .i64 fl']) (i - 1) (fun _ => rfl) hp rfl rfl rfl rfl (by omega)) ?_
                | refine st ?_
                | refine st_call (HF) ?_
                | refine st_call (HC) ?_
                | refine sd_call (HF) ?_
                | refine sd_call (HC) ?_
                | refine stRW [0] HF ?_
                | refine sdRW [0] HF ?_
                | refine stm ?_
                | refine run_want rfl rfl ?_
                | refine run_unwant rfl rfl ?_
                | refine run_undef rfl rfl ?_
                | refine run_guard1t rfl rfl (by omega) ?_
                | refine run_guard1f rfl rfl (by omega) ?_
                | refine run_guard0t rfl rfl (by omega) ?_
                | refine run_guard0f rfl rfl (by omega) ?_
                | refine run_guard1 rfl rfl (fun h1 => ?_) (fun h1 => ?_)
                | refine run_guard0 rfl rfl (fun h1 => ?_) (fun h1 => ?_)
                | refine run_guard rfl rfl (fun h1 => ?_) (fun h1 => ?_)
                | refine run_nil ?_
                | refine sd ?_
                | refine sdl ?_
                | refine sdm (n := 1) ?_
                | refine sdm ?_
                | refine sdb ?_
                | refine rund_want rfl rfl ?_
                | refine rund_unwant rfl rfl ?_
                | refine rund_undef rfl rfl ?_
                | refine rund_guard1 rfl rfl (fun h1 => ?_) (fun h1 => ?_)
                | refine rund_guard0 rfl rfl (fun h1 => ?_) (fun h1 => ?_)
                | refine rund_guard rfl rfl (fun h1 => ?_) (fun h1 => ?_)
                | refine rund_nil ?_
                | refine aw_seq ?_
                | refine aw_region (by kernel_rfl) (Nat.le_of_ble_eq_true rfl) ?_
                | refine aw_region_dC (id := 8) [0, 0, 2, 0, 14, 30, 63, 127] 8 (by (repeat constructor)) (by kernel_rfl) (by kernel_rfl) (by kernel_rfl) (by rfl) ?_
                | refine aw_region_dC (id := 11) [0, 1, 3, 7, 15, 7, 39, 127, 255, 7, 519, 7, 3591, 7687, 16383, 32767, 65535] 17 (by (repeat constructor)) (by kernel_rfl) (by kernel_rfl) (by kernel_rfl) (by rfl) ?_
                | refine aw_block ?_
                | refine aw_cond_t rfl ?_
                | refine aw_cond_f rfl ?_
                | refine aw_cond_tp rfl (by omega) ?_
                | refine aw_cond_fp rfl (by omega) ?_
                | refine aw_cond1 rfl (fun h1 => ?_) (fun h1 => ?_)
                | refine aw_cond rfl (fun h1 => ?_) (fun h1 => ?_)
                | refine aw_skip ?_
                | refine aw_exit ?_
                | refine aw_ret ?_
                | refine pp_ret ?_
                | refine pp_normal ?_
              all_goals first | exact Exists.intro ⟨i + 1⟩ ⟨fitsD [0, 1], ⟨hi, hat⟩, by dsimp only; omega⟩ | (exfalso; omega)
        · rw [if_pos hy0] at hat
          obtain rfl : x = y := by
            have := ceI_end (node := node) (len := len) (C := C) (i := i + 1) (by omega) (by rw [hat]; exact hy0)
            rw [← hx, ← hn, this, hat]
          repeat' first
            | refine st (h := ok_not_dec2 rfl) ?_
            | refine sd (h := ok_not_dec2 rfl) ?_
            | refine st (h := ok_load_rowsE (f := tcC) (cs := [.int .i64 sl, .int .i64 of, .int .i64 k, .bool sd_, .int .i64 pe, .int .i64 fl]) (i) (fun _ => rfl) hq rfl rfl rfl rfl (by omega)) ?_
            | refine sdl (h := ok_load_rowsE (f := tcC) (cs := [.int .i64 sl, .int .i64 of, .int .i64 k, .bool sd_, .int .i64 pe, .int .i64 fl]) (i) (fun _ => rfl) hq rfl rfl rfl rfl (by omega)) ?_
            | refine st ?_
            | refine st_call (HF) ?_
            | refine sd_call (HF) ?_
            | refine stRW [0] HF ?_
            | refine sdRW [0] HF ?_
            | refine stm ?_
            | refine run_want rfl rfl ?_
            | refine run_unwant rfl rfl ?_
            | refine run_undef rfl rfl ?_
            | refine run_guard1t rfl rfl (by omega) ?_
            | refine run_guard1f rfl rfl (by omega) ?_
            | refine run_guard0t rfl rfl (by omega) ?_
            | refine run_guard0f rfl rfl (by omega) ?_
            | refine run_guard1 rfl rfl (fun h1 => ?_) (fun h1 => ?_)
            | refine run_guard0 rfl rfl (fun h1 => ?_) (fun h1 => ?_)
            | refine run_guard rfl rfl (fun h1 => ?_) (fun h1 => ?_)
            | refine run_nil ?_
            | refine sd ?_
            | refine sdl ?_
            | refine sdm (n := 1) ?_
            | refine sdm ?_
            | refine sdb ?_
            | refine rund_want rfl rfl ?_
            | refine rund_unwant rfl rfl ?_
            | refine rund_undef rfl rfl ?_
            | refine rund_guard1 rfl rfl (fun h1 => ?_) (fun h1 => ?_)
            | refine rund_guard0 rfl rfl (fun h1 => ?_) (fun h1 => ?_)
            | refine rund_guard rfl rfl (fun h1 => ?_) (fun h1 => ?_)
            | refine rund_nil ?_
            | refine aw_seq ?_
            | refine aw_region (by kernel_rfl) (Nat.le_of_ble_eq_true rfl) ?_
            | refine aw_region_dC (id := 8) [0, 0, 2, 0, 14, 30, 63, 127] 8 (by (repeat constructor)) (by kernel_rfl) (by kernel_rfl) (by kernel_rfl) (by rfl) ?_
            | refine aw_region_dC (id := 11) [0, 1, 3, 7, 15, 7, 39, 127, 255, 7, 519, 7, 3591, 7687, 16383, 32767, 65535] 17 (by (repeat constructor)) (by kernel_rfl) (by kernel_rfl) (by kernel_rfl) (by rfl) ?_
            | refine aw_block ?_
            | refine aw_cond_t rfl ?_
            | refine aw_cond_f rfl ?_
            | refine aw_cond_tp rfl (by omega) ?_
            | refine aw_cond_fp rfl (by omega) ?_
            | refine aw_cond1 rfl (fun h1 => ?_) (fun h1 => ?_)
            | refine aw_cond rfl (fun h1 => ?_) (fun h1 => ?_)
            | refine aw_skip ?_
            | refine aw_exit ?_
            | refine aw_ret ?_
            | refine pp_ret ?_
            | refine pp_normal ?_
          all_goals first
            | rfl
            | (exfalso; omega)
            | (exfalso; simp only [Bool.not_eq_true', Bool.not_eq_false', decide_eq_true_eq, decide_eq_false_iff_not, Bool.not_false, Bool.not_true] at *; omega)
            | (exfalso; simp_all; first | done | omega)
      · obtain rfl : n = i := by omega
        obtain rfl : x = 0 := by rw [← hx, g2]
        repeat' first
          | refine st (h := ok_not_dec2 rfl) ?_
          | refine sd (h := ok_not_dec2 rfl) ?_
          | refine st (h := ok_load_rowsE (f := tcC) (cs := [.int .i64 sl, .int .i64 of, .int .i64 k, .bool sd_, .int .i64 pe, .int .i64 fl]) (i) (fun _ => rfl) hq rfl rfl rfl rfl (by omega)) ?_
          | refine sdl (h := ok_load_rowsE (f := tcC) (cs := [.int .i64 sl, .int .i64 of, .int .i64 k, .bool sd_, .int .i64 pe, .int .i64 fl]) (i) (fun _ => rfl) hq rfl rfl rfl rfl (by omega)) ?_
          | refine st ?_
          | refine st_call (HF) ?_
          | refine sd_call (HF) ?_
          | refine stRW [0] HF ?_
          | refine sdRW [0] HF ?_
          | refine stm ?_
          | refine run_want rfl rfl ?_
          | refine run_unwant rfl rfl ?_
          | refine run_undef rfl rfl ?_
          | refine run_guard1t rfl rfl (by omega) ?_
          | refine run_guard1f rfl rfl (by omega) ?_
          | refine run_guard0t rfl rfl (by omega) ?_
          | refine run_guard0f rfl rfl (by omega) ?_
          | refine run_guard1 rfl rfl (fun h1 => ?_) (fun h1 => ?_)
          | refine run_guard0 rfl rfl (fun h1 => ?_) (fun h1 => ?_)
          | refine run_guard rfl rfl (fun h1 => ?_) (fun h1 => ?_)
          | refine run_nil ?_
          | refine sd ?_
          | refine sdl ?_
          | refine sdm (n := 1) ?_
          | refine sdm ?_
          | refine sdb ?_
          | refine rund_want rfl rfl ?_
          | refine rund_unwant rfl rfl ?_
          | refine rund_undef rfl rfl ?_
          | refine rund_guard1 rfl rfl (fun h1 => ?_) (fun h1 => ?_)
          | refine rund_guard0 rfl rfl (fun h1 => ?_) (fun h1 => ?_)
          | refine rund_guard rfl rfl (fun h1 => ?_) (fun h1 => ?_)
          | refine rund_nil ?_
          | refine aw_seq ?_
          | refine aw_region (by kernel_rfl) (Nat.le_of_ble_eq_true rfl) ?_
          | refine aw_region_dC (id := 8) [0, 0, 2, 0, 14, 30, 63, 127] 8 (by (repeat constructor)) (by kernel_rfl) (by kernel_rfl) (by kernel_rfl) (by rfl) ?_
          | refine aw_region_dC (id := 11) [0, 1, 3, 7, 15, 7, 39, 127, 255, 7, 519, 7, 3591, 7687, 16383, 32767, 65535] 17 (by (repeat constructor)) (by kernel_rfl) (by kernel_rfl) (by kernel_rfl) (by rfl) ?_
          | refine aw_block ?_
          | refine aw_cond_t rfl ?_
          | refine aw_cond_f rfl ?_
          | refine aw_cond_tp rfl (by omega) ?_
          | refine aw_cond_fp rfl (by omega) ?_
          | refine aw_cond1 rfl (fun h1 => ?_) (fun h1 => ?_)
          | refine aw_cond rfl (fun h1 => ?_) (fun h1 => ?_)
          | refine aw_skip ?_
          | refine aw_exit ?_
          | refine aw_ret ?_
          | refine pp_ret ?_
          | refine pp_normal ?_
        all_goals first
          | rfl
          | (exfalso; omega)
          | (exfalso; simp only [Bool.not_eq_true', Bool.not_eq_false', decide_eq_true_eq, decide_eq_false_iff_not, Bool.not_false, Bool.not_true] at *; omega)
          | (exfalso; simp_all; first | done | omega)
end Go.Proofs.Ytfabgdignlfihaa
