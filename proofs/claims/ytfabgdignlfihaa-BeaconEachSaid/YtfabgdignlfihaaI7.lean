/- Tables: the cell of a slot. -/
import Derived.Test.YtfabgdignlfihaaI6
set_option linter.unusedVariables false
set_option linter.unusedSimpArgs false
namespace Go.Proofs.Ytfabgdignlfihaa
open Go Av
set_option maxRecDepth 20000
set_option maxHeartbeats 4000000 in
theorem ac_at (node len : Int) (C : List Ce) (n : Nat) (hn : C.length = n) (hb : n ≤ 1000000) (s : Int) (o : Option Ce) (ho : atR node len C s = o) : ACalls Try.prog 54 [.agg #[.int .i64 node, .int .i64 len, .slice (some ⟨0, 0, none⟩) n n], .int .i64 s] [some ⟨C.flatMap tcC, false, 6⟩] (.tuple #[.agg (tcC (o.getD (0, 0, 0, false, 0, 0, ()))).toArray, .bool o.isSome]) [none] := by
  unfold atR at ho
  obtain ⟨y, hy⟩ : ∃ y, chkT node len C = y := ⟨_, rfl⟩
  have HC := ac_tcheck node len C n hn (by omega) y hy
  rw [hy] at ho
  by_cases h1 : y ≠ 0 ∨ s < 0
  · obtain rfl : o = none := by rw [← ho]; exact if_pos h1
    clear ho
    refine acalls_law Try.func54 rfl rfl rfl ?_
    repeat' first
      | refine st ?_
      | refine stRW [0] HC ?_
      | refine sdRW [0] HC ?_
      | refine stm ?_
      | refine run_want rfl rfl ?_
      | refine run_unwant rfl rfl ?_
      | refine run_undef rfl rfl ?_
      | refine run_guard1t rfl rfl (by omega) ?_
      | refine run_guard1f rfl rfl (by omega) ?_
      | refine run_guard0t rfl rfl (by omega) ?_
      | refine run_guard0f rfl rfl (by omega) ?_
      | refine run_guard1 rfl rfl (fun h1 => ?_) (fun h1 => ?_)
      | refine run_guard0 rfl rfl (fun h1 => ?_) (fun h1 => ?_)
      | refine run_guard rfl rfl (fun h1 => ?_) (fun h1 => ?_)
      | refine run_nil ?_
      | refine sd ?_
      | refine sdl ?_
      | refine sdm (n := 1) ?_
      | refine sdm ?_
      | refine sdb ?_
      | refine rund_want rfl rfl ?_
      | refine rund_unwant rfl rfl ?_
      | refine rund_undef rfl rfl ?_
      | refine rund_guard1 rfl rfl (fun h1 => ?_) (fun h1 => ?_)
      | refine rund_guard0 rfl rfl (fun h1 => ?_) (fun h1 => ?_)
      | refine rund_guard rfl rfl (fun h1 => ?_) (fun h1 => ?_)
      | refine rund_nil ?_
      | refine aw_seq ?_
      | refine aw_region (by kernel_rfl) (Nat.le_of_ble_eq_true rfl) ?_
      | refine aw_region_dC (id := 3) [0, 1, 0, 0, 8, 28, 63, 127, 255, 255, 511, 2047] 12 (by (repeat constructor)) (by kernel_rfl) (by kernel_rfl) (by kernel_rfl) (by rfl) ?_
      | refine aw_region_dC (id := 4) [0, 0, 2, 6, 15, 31, 63, 127, 63, 511, 1023, 2047, 63, 63, 8255, 28735, 65535, 131071] 18 (by (repeat constructor)) (by kernel_rfl) (by kernel_rfl) (by kernel_rfl) (by rfl) ?_
      | refine aw_block ?_
      | refine aw_cond_t rfl ?_
      | refine aw_cond_f rfl ?_
      | refine aw_cond_tp rfl (by omega) ?_
      | refine aw_cond_fp rfl (by omega) ?_
      | refine aw_cond1 rfl (fun h1 => ?_) (fun h1 => ?_)
      | refine aw_cond rfl (fun h1 => ?_) (fun h1 => ?_)
      | refine aw_skip ?_
      | refine aw_exit ?_
      | refine aw_ret ?_
      | refine pp_ret ?_
      | refine pp_normal ?_
    all_goals first
      | rfl
      | (exfalso; omega)
      | (exfalso; simp only [Bool.not_eq_true', Bool.not_eq_false', decide_eq_true_eq, decide_eq_false_iff_not, Bool.not_false, Bool.not_true] at *; omega)
      | (exfalso; simp_all; first | done | omega)
  · rw [if_neg h1] at ho
    obtain rfl : y = 0 := Decidable.byContradiction fun h => h1 (.inl h)
    obtain ⟨q1, q2, q3, q4⟩ := chkT_0 hy
    have hmod : 0 ≤ s % len ∧ s % len < len := ⟨Int.emod_nonneg _ (by omega), Int.emod_lt_of_pos _ (by omega)⟩
    obtain ⟨q, hq⟩ : ∃ q, s % len = q := ⟨_, rfl⟩
    rw [hq] at ho hmod
    obtain ⟨i, b, i1, i2, i3, HS⟩ := ac_search C n hn (by omega) q (chk_mono q4)
    by_cases hi : i < n
    · obtain ⟨⟨sl, of, k, sd_, pe, fl, u⟩, hc⟩ : ∃ c, C[i]? = some c := ⟨_, List.getElem?_eq_getElem (by omega)⟩
      by_cases hs : sl = q
      · obtain rfl : o = some (sl, of, k, sd_, pe, fl, u) := by rw [← ho]; exact atC_lb i2 hc hs
        clear ho i2 i3
        refine acalls_law Try.func54 rfl rfl rfl ?_
        repeat' first
          | refine st (v := .int .i64 q) (h := by (rw [← hq]; apply ok_rem_pos; rfl; rfl; omega)) ?_
          | refine sd (v := .int .i64 q) (h := by (rw [← hq]; apply ok_rem_pos; rfl; rfl; omega)) ?_
          | refine st (h := ok_load_rowsE (f := tcC) (cs := [.int .i64 sl, .int .i64 of, .int .i64 k, .bool sd_, .int .i64 pe, .int .i64 fl]) (i) (fun _ => rfl) hc rfl rfl rfl rfl (by omega)) ?_
          | refine sdl (h := ok_load_rowsE (f := tcC) (cs := [.int .i64 sl, .int .i64 of, .int .i64 k, .bool sd_, .int .i64 pe, .int .i64 fl]) (i) (fun _ => rfl) hc rfl rfl rfl rfl (by omega)) ?_
          | refine sdl (h := ok_load_rowcellE (f := tcC) (n := 6) (v := .int .i64 sl) i 0 (fun _ => rfl) hc rfl (by omega) rfl rfl rfl (by omega)) ?_
          | refine st (h := ok_load_rowcellE (f := tcC) (n := 6) (v := .int .i64 sl) i 0 (fun _ => rfl) hc rfl (by omega) rfl rfl rfl (by omega)) ?_
          | refine st ?_
          | refine stRW [0] HC ?_
          | refine sdRW [0] HC ?_
          | refine stRW [0] HS ?_
          | refine sdRW [0] HS ?_
          | refine stm ?_
          | refine run_want rfl rfl ?_
          | refine run_unwant rfl rfl ?_
          | refine run_undef rfl rfl ?_
          | refine run_guard1t rfl rfl (by omega) ?_
          | refine run_guard1f rfl rfl (by omega) ?_
          | refine run_guard0t rfl rfl (by omega) ?_
          | refine run_guard0f rfl rfl (by omega) ?_
          | refine run_guard1 rfl rfl (fun h1 => ?_) (fun h1 => ?_)
          | refine run_guard0 rfl rfl (fun h1 => ?_) (fun h1 => ?_)
          | refine run_guard rfl rfl (fun h1 => ?_) (fun h1 => ?_)
          | refine run_nil ?_
          | refine sd ?_
          | refine sdl ?_
          | refine sdm (n := 1) ?_
          | refine sdm ?_
          | refine sdb ?_
          | refine rund_want rfl rfl ?_
          | refine rund_unwant rfl rfl ?_
          | refine rund_undef rfl rfl ?_
          | refine rund_guard1 rfl rfl (fun h1 => ?_) (fun h1 => ?_)
          | refine rund_guard0 rfl rfl (fun h1 => ?_) (fun h1 => ?_)
          | refine rund_guard rfl rfl (fun h1 => ?_) (fun h1 => ?_)
          | refine rund_nil ?_
          | refine aw_seq ?_
          | refine aw_region (by kernel_rfl) (Nat.le_of_ble_eq_true rfl) ?_
          | refine aw_region_dC (id := 3) [0, 1, 0, 0, 8, 28, 63, 127, 255, 255, 511, 2047] 12 (by (repeat constructor)) (by kernel_rfl) (by kernel_rfl) (by kernel_rfl) (by rfl) ?_
          | refine aw_region_dC (id := 4) [0, 0, 2, 6, 15, 31, 63, 127, 63, 511, 1023, 2047, 63, 63, 8255, 28735, 65535, 131071] 18 (by (repeat constructor)) (by kernel_rfl) (by kernel_rfl) (by kernel_rfl) (by rfl) ?_
          | refine aw_block ?_
          | refine aw_cond_t rfl ?_
          | refine aw_cond_f rfl ?_
          | refine aw_cond_tp rfl (by omega) ?_
          | refine aw_cond_fp rfl (by omega) ?_
          | refine aw_cond1 rfl (fun h1 => ?_) (fun h1 => ?_)
          | refine aw_cond rfl (fun h1 => ?_) (fun h1 => ?_)
          | refine aw_skip ?_
          | refine aw_exit ?_
          | refine aw_ret ?_
          | refine pp_ret ?_
          | refine pp_normal ?_
        all_goals first
          | rfl
          | (exfalso; omega)
          | (exfalso; simp only [Bool.not_eq_true', Bool.not_eq_false', decide_eq_true_eq, decide_eq_false_iff_not, Bool.not_false, Bool.not_true] at *; omega)
          | (exfalso; simp_all; first | done | omega)
      · obtain rfl : o = none := by
          rw [← ho]
          refine atC_no fun j c hj he => ?_
          rcases Nat.lt_trichotomy j i with h | h | h
          · have := i2 j c h hj; omega
          · subst h
            rw [hc] at hj; cases hj
            exact hs he
          · have h5 := i3 i _ (Nat.le_refl _) hc
            have h6 := chk_mono (chkT_0 hy).2.2.2 i j _ c (by omega) hc hj
            dsimp only at h5 h6
            omega
        clear ho i2 i3
        refine acalls_law Try.func54 rfl rfl rfl ?_
        repeat' first
          | refine st (v := .int .i64 q) (h := by (rw [← hq]; apply ok_rem_pos; rfl; rfl; omega)) ?_
          | refine sd (v := .int .i64 q) (h := by (rw [← hq]; apply ok_rem_pos; rfl; rfl; omega)) ?_
          | refine st (h := ok_load_rowsE (f := tcC) (cs := [.int .i64 sl, .int .i64 of, .int .i64 k, .bool sd_, .int .i64 pe, .int .i64 fl]) (i) (fun _ => rfl) hc rfl rfl rfl rfl (by omega)) ?_
          | refine sdl (h := ok_load_rowsE (f := tcC) (cs := [.int .i64 sl, .int .i64 of, .int .i64 k, .bool sd_, .int .i64 pe, .int .i64 fl]) (i) (fun _ => rfl) hc rfl rfl rfl rfl (by omega)) ?_
          | refine sdl (h := ok_load_rowcellE (f := tcC) (n := 6) (v := .int .i64 sl) i 0 (fun _ => rfl) hc rfl (by omega) rfl rfl rfl (by omega)) ?_
          | refine st (h := ok_load_rowcellE (f := tcC) (n := 6) (v := .int .i64 sl) i 0 (fun _ => rfl) hc rfl (by omega) rfl rfl rfl (by omega)) ?_
          | refine st ?_
          | refine stRW [0] HC ?_
          | refine sdRW [0] HC ?_
          | refine stRW [0] HS ?_
          | refine sdRW [0] HS ?_
          | refine stm ?_
          | refine run_want rfl rfl ?_
          | refine run_unwant rfl rfl ?_
          | refine run_undef rfl rfl ?_
          | refine run_guard1t rfl rfl (by omega) ?_
          | refine run_guard1f rfl rfl (by omega) ?_
          | refine run_guard0t rfl rfl (by omega) ?_
          | refine run_guard0f rfl rfl (by omega) ?_
          | refine run_guard1 rfl rfl (fun h1 => ?_) (fun h1 => ?_)
          | refine run_guard0 rfl rfl (fun h1 => ?_) (fun h1 => ?_)
          | refine run_guard rfl rfl (fun h1 => ?_) (fun h1 => ?_)
          | refine run_nil ?_
          | refine sd ?_
          | refine sdl ?_
          | refine sdm (n := 1) ?_
          | refine sdm ?_
          | refine sdb ?_
          | refine rund_want rfl rfl ?_
          | refine rund_unwant rfl rfl ?_
          | refine rund_undef rfl rfl ?_
          | refine rund_guard1 rfl rfl (fun h1 => ?_) (fun h1 => ?_)
          | refine rund_guard0 rfl rfl (fun h1 => ?_) (fun h1 => ?_)
          | refine rund_guard rfl rfl (fun h1 => ?_) (fun h1 => ?_)
          | refine rund_nil ?_
          | refine aw_seq ?_
          | refine aw_region (by kernel_rfl) (Nat.le_of_ble_eq_true rfl) ?_
          | refine aw_region_dC (id := 3) [0, 1, 0, 0, 8, 28, 63, 127, 255, 255, 511, 2047] 12 (by (repeat constructor)) (by kernel_rfl) (by kernel_rfl) (by kernel_rfl) (by rfl) ?_
          | refine aw_region_dC (id := 4) [0, 0, 2, 6, 15, 31, 63, 127, 63, 511, 1023, 2047, 63, 63, 8255, 28735, 65535, 131071] 18 (by (repeat constructor)) (by kernel_rfl) (by kernel_rfl) (by kernel_rfl) (by rfl) ?_
          | refine aw_block ?_
          | refine aw_cond_t rfl ?_
          | refine aw_cond_f rfl ?_
          | refine aw_cond_tp rfl (by omega) ?_
          | refine aw_cond_fp rfl (by omega) ?_
          | refine aw_cond1 rfl (fun h1 => ?_) (fun h1 => ?_)
          | refine aw_cond rfl (fun h1 => ?_) (fun h1 => ?_)
          | refine aw_skip ?_
          | refine aw_exit ?_
          | refine aw_ret ?_
          | refine pp_ret ?_
          | refine pp_normal ?_
        all_goals first
          | rfl
          | (exfalso; omega)
          | (exfalso; simp only [Bool.not_eq_true', Bool.not_eq_false', decide_eq_true_eq, decide_eq_false_iff_not, Bool.not_false, Bool.not_true] at *; omega)
          | (exfalso; simp_all; first | done | omega)
    · obtain rfl : o = none := by
        rw [← ho]
        refine atC_no fun j c hj he => ?_
        have := i2 j c (by have := (List.getElem?_eq_some_iff.1 hj).1; omega) hj
        omega
      clear ho i2 i3
      refine acalls_law Try.func54 rfl rfl rfl ?_
      repeat' first
        | refine st (v := .int .i64 q) (h := by (rw [← hq]; apply ok_rem_pos; rfl; rfl; omega)) ?_
        | refine sd (v := .int .i64 q) (h := by (rw [← hq]; apply ok_rem_pos; rfl; rfl; omega)) ?_
        | refine st (h := ok_load_rowsE (f := tcC) (cs := [.int .i64 sl, .int .i64 of, .int .i64 k, .bool sd_, .int .i64 pe, .int .i64 fl]) (i) (fun _ => rfl) hc rfl rfl rfl rfl (by omega)) ?_
        | refine sdl (h := ok_load_rowsE (f := tcC) (cs := [.int .i64 sl, .int .i64 of, .int .i64 k, .bool sd_, .int .i64 pe, .int .i64 fl]) (i) (fun _ => rfl) hc rfl rfl rfl rfl (by omega)) ?_
        | refine sdl (h := ok_load_rowcellE (f := tcC) (n := 6) (v := .int .i64 sl) i 0 (fun _ => rfl) hc rfl (by omega) rfl rfl rfl (by omega)) ?_
        | refine st (h := ok_load_rowcellE (f := tcC) (n := 6) (v := .int .i64 sl) i 0 (fun _ => rfl) hc rfl (by omega) rfl rfl rfl (by omega)) ?_
        | refine st ?_
        | refine stRW [0] HC ?_
        | refine sdRW [0] HC ?_
        | refine stRW [0] HS ?_
        | refine sdRW [0] HS ?_
        | refine stm ?_
        | refine run_want rfl rfl ?_
        | refine run_unwant rfl rfl ?_
        | refine run_undef rfl rfl ?_
        | refine run_guard1t rfl rfl (by omega) ?_
        | refine run_guard1f rfl rfl (by omega) ?_
        | refine run_guard0t rfl rfl (by omega) ?_
        | refine run_guard0f rfl rfl (by omega) ?_
        | refine run_guard1 rfl rfl (fun h1 => ?_) (fun h1 => ?_)
        | refine run_guard0 rfl rfl (fun h1 => ?_) (fun h1 => ?_)
        | refine run_guard rfl rfl (fun h1 => ?_) (fun h1 => ?_)
        | refine run_nil ?_
        | refine sd ?_
        | refine sdl ?_
        | refine sdm (n := 1) ?_
        | refine sdm ?_
        | refine sdb ?_
        | refine rund_want rfl rfl ?_
        | refine rund_unwant rfl rfl ?_
        | refine rund_undef rfl rfl ?_
        | refine rund_guard1 rfl rfl (fun h1 => ?_) (fun h1 => ?_)
        | refine rund_guard0 rfl rfl (fun h1 => ?_) (fun h1 => ?_)
        | refine rund_guard rfl rfl (fun h1 => ?_) (fun h1 => ?_)
        | refine rund_nil ?_
        | refine aw_seq ?_
        | refine aw_region (by kernel_rfl) (Nat.le_of_ble_eq_true rfl) ?_
        | refine aw_region_dC (id := 3) [0, 1, 0, 0, 8, 28, 63, 127, 255, 255, 511, 2047] 12 (by (repeat constructor)) (by kernel_rfl) (by kernel_rfl) (by kernel_rfl) (by rfl) ?_
        | refine aw_region_dC (id := 4) [0, 0, 2, 6, 15, 31, 63, 127, 63, 511, 1023, 2047, 63, 63, 8255, 28735, 65535, 131071] 18 (by (repeat constructor)) (by kernel_rfl) (by kernel_rfl) (by kernel_rfl) (by rfl) ?_
        | refine aw_block ?_
        | refine aw_cond_t rfl ?_
        | refine aw_cond_f rfl ?_
        | refine aw_cond_tp rfl (by omega) ?_
        | refine aw_cond_fp rfl (by omega) ?_
        | refine aw_cond1 rfl (fun h1 => ?_) (fun h1 => ?_)
        | refine aw_cond rfl (fun h1 => ?_) (fun h1 => ?_)
        | refine aw_skip ?_
        | refine aw_exit ?_
        | refine aw_ret ?_
        | refine pp_ret ?_
        | refine pp_normal ?_
      all_goals first
        | rfl
        | (exfalso; omega)
        | (exfalso; simp only [Bool.not_eq_true', Bool.not_eq_false', decide_eq_true_eq, decide_eq_false_iff_not, Bool.not_false, Bool.not_true] at *; omega)
        | (exfalso; simp_all; first | done | omega)
end Go.Proofs.Ytfabgdignlfihaa
