/- Turns, of the reference. -/
import Derived.Test.YtfabgdignlfihaaK1
import Derived.Test.YtfabgdignlfihaaI5
set_option linter.unusedVariables false
set_option linter.unusedSimpArgs false
namespace Go.Proofs.Ytfabgdignlfihaa
open Go Av
set_option maxRecDepth 20000
set_option maxHeartbeats 4000000 in
theorem ac_rturn (node len : Int) (C : List Ce) (n : Nat) (hn : C.length = n) (hb : n ≤ 1000000) (s t : Int) (hs : s ≤ 9223372036854775807) (p : Int) (z : Bool) (hx : turnR node len C s t = (p, z)) : ACalls Try.prog 19 [.agg #[.int .i64 node, .int .i64 len, .slice (some ⟨0, 0, none⟩) n n], .int .i64 s, .int .i64 t] [some ⟨C.flatMap tcC, false, 6⟩] (.tuple #[.int .i64 p, .bool z]) [none] := by
  unfold turnR at hx
  obtain ⟨y, hy⟩ : ∃ y, chkT node len C = y := ⟨_, rfl⟩
  have HC := ac_rtcheck node len C n hn (by omega) y hy
  rw [hy] at hx
  by_cases h1 : y ≠ 0 ∨ t < 1 ∨ 32 < t ∨ s < 0
  · rw [if_pos h1] at hx
    obtain ⟨rfl, rfl⟩ := Prod.mk.inj hx.symm
    refine acalls_law Try.func19 rfl rfl rfl ?_
    repeat' first
      | refine st (h := ok_not_dec2 rfl) ?_
      | refine sd (h := ok_not_dec2 rfl) ?_
      | refine st ?_
      | refine stRW [0] HC ?_
      | refine sdRW [0] HC ?_
      | refine stm ?_
      | refine run_want rfl rfl ?_
      | refine run_unwant rfl rfl ?_
      | refine run_undef rfl rfl ?_
      | refine run_guard1t rfl rfl (by omega) ?_
      | refine run_guard1f rfl rfl (by omega) ?_
      | refine run_guard0t rfl rfl (by omega) ?_
      | refine run_guard0f rfl rfl (by omega) ?_
      | refine run_guard1 rfl rfl (fun h1 => ?_) (fun h1 => ?_)
      | refine run_guard0 rfl rfl (fun h1 => ?_) (fun h1 => ?_)
      | refine run_guard rfl rfl (fun h1 => ?_) (fun h1 => ?_)
      | refine run_nil ?_
      | refine sd ?_
      | refine sdl ?_
      | refine sdm (n := 1) ?_
      | refine sdm ?_
      | refine sdb ?_
      | refine rund_want rfl rfl ?_
      | refine rund_unwant rfl rfl ?_
      | refine rund_undef rfl rfl ?_
      | refine rund_guard1 rfl rfl (fun h1 => ?_) (fun h1 => ?_)
      | refine rund_guard0 rfl rfl (fun h1 => ?_) (fun h1 => ?_)
      | refine rund_guard rfl rfl (fun h1 => ?_) (fun h1 => ?_)
      | refine rund_nil ?_
      | refine aw_seq ?_
      | refine aw_region (by kernel_rfl) (Nat.le_of_ble_eq_true rfl) ?_
      | refine aw_region_dC (id := 10) [0, 1, 0, 0, 8, 28, 63] 7 (by (repeat constructor)) (by kernel_rfl) (by kernel_rfl) (by kernel_rfl) (by rfl) ?_
      | refine aw_region_dC (id := 12) [0, 1, 0, 0, 8, 28, 63] 7 (by (repeat constructor)) (by kernel_rfl) (by kernel_rfl) (by kernel_rfl) (by rfl) ?_
      | refine aw_block ?_
      | refine aw_cond_t rfl ?_
      | refine aw_cond_f rfl ?_
      | refine aw_cond_tp rfl (by omega) ?_
      | refine aw_cond_fp rfl (by omega) ?_
      | refine aw_cond1 rfl (fun h1 => ?_) (fun h1 => ?_)
      | refine aw_cond rfl (fun h1 => ?_) (fun h1 => ?_)
      | refine aw_skip ?_
      | refine aw_exit ?_
      | refine aw_ret ?_
      | refine pp_ret ?_
      | refine pp_normal ?_
    all_goals first
      | rfl
      | (exfalso; omega)
      | (exfalso; simp only [Bool.not_eq_true', Bool.not_eq_false', decide_eq_true_eq, decide_eq_false_iff_not, Bool.not_false, Bool.not_true] at *; omega)
      | (exfalso; simp_all; first | done | omega)
  · rw [if_neg h1] at hx
    obtain rfl : y = 0 := Decidable.byContradiction fun h => h1 (.inl h)
    have ht : 1 ≤ t ∧ t ≤ 32 ∧ 0 ≤ s := by omega
    clear h1
    obtain ⟨q1, q2, q3, q4⟩ := chkT_0 hy
    have hmod : 0 ≤ s % len ∧ s % len < len := ⟨Int.emod_nonneg _ (by omega), Int.emod_lt_of_pos _ (by omega)⟩
    obtain ⟨q, hq⟩ : ∃ q, s % len = q := ⟨_, rfl⟩
    obtain ⟨v, hv⟩ : ∃ v, s / len = v := ⟨_, rfl⟩
    have hv0 : 0 ≤ v := by rw [← hv]; exact Int.ediv_nonneg (by omega) (by omega)
    obtain ⟨kk, hk⟩ : ∃ kk, v % t = kk := ⟨_, rfl⟩
    have hk0 : 0 ≤ kk ∧ kk < 32 := by
      have := Int.emod_lt_of_pos v (show 0 < t by omega)
      have := Int.emod_nonneg v (show t ≠ 0 by omega)
      omega
    obtain ⟨a, ha⟩ : ∃ a, shN C = a := ⟨_, rfl⟩
    have ha0 : 0 ≤ a ∧ a ≤ 512 := by have := shN_bd C; omega
    obtain ⟨w, hw⟩ : ∃ w, kk * a = w := ⟨_, rfl⟩
    have hw0 : 0 ≤ w ∧ w ≤ 16384 := by rw [← hw]; exact mul_bd hk0 ha0
    rw [hq, hv, hk, ha, hw] at hx
    rw [hq] at hmod
    obtain ⟨e, d, hbf⟩ : ∃ e d, bef C q = (e, d) := ⟨_, _, rfl⟩
    rw [hbf] at hx
    have hsh := bef_sh (q := q) (chk_pw q4)
    rw [hbf] at hsh
    dsimp only at hsh hx
    obtain ⟨hsh1, hsh2⟩ := hsh
    have hB0 := shB_bd q C
    refine acalls_law Try.func19 rfl rfl rfl ?_
    repeat' first
      | refine st (h := ok_not_dec2 rfl) ?_
      | refine sd (h := ok_not_dec2 rfl) ?_
      | refine st ?_
      | refine stRW [0] HC ?_
      | refine sdRW [0] HC ?_
      | refine stm ?_
      | refine run_want rfl rfl ?_
      | refine run_unwant rfl rfl ?_
      | refine run_undef rfl rfl ?_
      | refine run_guard1t rfl rfl (by omega) ?_
      | refine run_guard1f rfl rfl (by omega) ?_
      | refine run_guard0t rfl rfl (by omega) ?_
      | refine run_guard0f rfl rfl (by omega) ?_
      | refine run_guard1 rfl rfl (fun h1 => ?_) (fun h1 => ?_)
      | refine run_guard0 rfl rfl (fun h1 => ?_) (fun h1 => ?_)
      | refine run_guard rfl rfl (fun h1 => ?_) (fun h1 => ?_)
      | refine run_nil ?_
      | refine sd ?_
      | refine sdl ?_
      | refine sdm (n := 1) ?_
      | refine sdm ?_
      | refine sdb ?_
      | refine rund_want rfl rfl ?_
      | refine rund_unwant rfl rfl ?_
      | refine rund_undef rfl rfl ?_
      | refine rund_guard1 rfl rfl (fun h1 => ?_) (fun h1 => ?_)
      | refine rund_guard0 rfl rfl (fun h1 => ?_) (fun h1 => ?_)
      | refine rund_guard rfl rfl (fun h1 => ?_) (fun h1 => ?_)
      | refine rund_nil ?_
      | refine aw_seq ?_
      | refine aw_region (by kernel_rfl) (Nat.le_of_ble_eq_true rfl) ?_
      | refine aw_region_dC (id := 10) [0, 1, 0, 0, 8, 28, 63] 7 (by (repeat constructor)) (by kernel_rfl) (by kernel_rfl) (by kernel_rfl) (by rfl) ?_
      | refine aw_region_dC (id := 12) [0, 1, 0, 0, 8, 28, 63] 7 (by (repeat constructor)) (by kernel_rfl) (by kernel_rfl) (by kernel_rfl) (by rfl) ?_
      | refine aw_block ?_
      | refine aw_cond_t rfl ?_
      | refine aw_cond_f rfl ?_
      | refine aw_cond_tp rfl (by omega) ?_
      | refine aw_cond_fp rfl (by omega) ?_
      | refine aw_cond1 rfl (fun h1 => ?_) (fun h1 => ?_)
      | refine aw_cond rfl (fun h1 => ?_) (fun h1 => ?_)
      | refine aw_skip ?_
      | refine aw_exit ?_
      | refine aw_ret ?_
      | refine pp_ret ?_
      | refine pp_normal ?_
    clear HC
    refine aw_loopg
      (S := fun y : Sg => [(1, .int .i64 s), (2, .int .i64 t), (3, .pointer (some ⟨1, 0, none⟩)), (8, .int .i64 y.a), (9, .int .i64 y.b), (10, .bool y.h), (11, .int .i64 y.i)])
      (B := fun _ : Sg => [some ⟨C.flatMap tcC, false, 6⟩, some ⟨[.int .i64 node, .int .i64 len, .slice (some ⟨0, 0, none⟩) n n], true, 1⟩])
      (R := fun y : Sg => y.i ≤ n ∧ a = y.a + shN (C.drop y.i) ∧ shB q C = y.b + shB q (C.drop y.i) ∧ shH q C = (y.h || shH q (C.drop y.i)) ∧ (0 ≤ y.a ∧ y.a ≤ y.i) ∧ 0 ≤ y.b ∧ y.b ≤ y.i)
      (μ := fun y : Sg => n - y.i) ⟨0, 0, 0, false⟩ (fitsD [0, 1]) ⟨Nat.zero_le _, by simp [ha], by simp, by simp, ⟨Int.le_refl _, Int.le_refl _⟩, Int.le_refl _, Int.le_refl _⟩ ?_
    rintro ⟨i, aa, bb, hh⟩ ⟨g1, g2, g3, g4, g5, g6⟩
    dsimp only at *
    by_cases hi : i < n
    · obtain ⟨⟨sl, of, k, sd_, pe, fl, u⟩, hc⟩ : ∃ c, C[i]? = some c := ⟨_, List.getElem?_eq_getElem (by omega)⟩
      have hd := drop_at hc
      rw [hd, shN] at g2
      rw [hd, shB] at g3
      rw [hd, shH] at g4
      dsimp only at g2 g3 g4
      by_cases h1 : k = 3
      · rw [if_pos h1] at g2
        by_cases h2 : sl < q
        · rw [if_pos ⟨h1, h2⟩] at g3
          rw [decide_eq_false (show ¬ (k = 3 ∧ sl = q) by omega), Bool.false_or] at g4
          repeat' first
            | refine st (h := ok_not_dec2 rfl) ?_
            | refine sd (h := ok_not_dec2 rfl) ?_
            | refine st (v := .int .i64 q) (h := by (rw [← hq]; apply ok_rem_pos; rfl; rfl; omega)) ?_
            | refine sd (v := .int .i64 q) (h := by (rw [← hq]; apply ok_rem_pos; rfl; rfl; omega)) ?_
            | refine st (v := .int .i64 v) (h := by (rw [← hv]; apply ok_quo64; rfl; rfl; omega)) ?_
            | refine sd (v := .int .i64 v) (h := by (rw [← hv]; apply ok_quo64; rfl; rfl; omega)) ?_
            | refine st (v := .int .i64 kk) (h := by (rw [← hk]; apply ok_rem_pos; rfl; rfl; omega)) ?_
            | refine sd (v := .int .i64 kk) (h := by (rw [← hk]; apply ok_rem_pos; rfl; rfl; omega)) ?_
            | refine st (v := .int .i64 w) (h := by (rw [← hw]; apply ok_mul64; rfl; rfl; (rw [hw]; omega))) ?_
            | refine sd (v := .int .i64 w) (h := by (rw [← hw]; apply ok_mul64; rfl; rfl; (rw [hw]; omega))) ?_
            | refine st (h := ok_load_rowsE (f := tcC) (cs := [.int .i64 sl, .int .i64 of, .int .i64 k, .bool sd_, .int .i64 pe, .int .i64 fl]) (i) (fun _ => rfl) hc rfl rfl rfl rfl (by omega)) ?_
            | refine st ?_
            | refine stm ?_
            | refine run_want rfl rfl ?_
            | refine run_unwant rfl rfl ?_
            | refine run_undef rfl rfl ?_
            | refine run_guard1t rfl rfl (by omega) ?_
            | refine run_guard1f rfl rfl (by omega) ?_
            | refine run_guard0t rfl rfl (by omega) ?_
            | refine run_guard0f rfl rfl (by omega) ?_
            | refine run_guard1 rfl rfl (fun h1 => ?_) (fun h1 => ?_)
            | refine run_guard0 rfl rfl (fun h1 => ?_) (fun h1 => ?_)
            | refine run_guard rfl rfl (fun h1 => ?_) (fun h1 => ?_)
            | refine run_nil ?_
            | refine sd ?_
            | refine sdl ?_
            | refine sdm (n := 1) ?_
            | refine sdm ?_
            | refine sdb ?_
            | refine rund_want rfl rfl ?_
            | refine rund_unwant rfl rfl ?_
            | refine rund_undef rfl rfl ?_
            | refine rund_guard1 rfl rfl (fun h1 => ?_) (fun h1 => ?_)
            | refine rund_guard0 rfl rfl (fun h1 => ?_) (fun h1 => ?_)
            | refine rund_guard rfl rfl (fun h1 => ?_) (fun h1 => ?_)
            | refine rund_nil ?_
            | refine aw_seq ?_
            | refine aw_region (by kernel_rfl) (Nat.le_of_ble_eq_true rfl) ?_
            | refine aw_region_dC (id := 10) [0, 1, 0, 0, 8, 28, 63] 7 (by (repeat constructor)) (by kernel_rfl) (by kernel_rfl) (by kernel_rfl) (by rfl) ?_
            | refine aw_region_dC (id := 12) [0, 1, 0, 0, 8, 28, 63] 7 (by (repeat constructor)) (by kernel_rfl) (by kernel_rfl) (by kernel_rfl) (by rfl) ?_
            | refine aw_block ?_
            | refine aw_cond_t rfl ?_
            | refine aw_cond_f rfl ?_
            | refine aw_cond_tp rfl (by omega) ?_
            | refine aw_cond_fp rfl (by omega) ?_
            | refine aw_cond1 rfl (fun h1 => ?_) (fun h1 => ?_)
            | refine aw_cond rfl (fun h1 => ?_) (fun h1 => ?_)
            | refine aw_skip ?_
            | refine aw_exit ?_
            | refine aw_ret ?_
            | refine pp_ret ?_
            | refine pp_normal ?_
          all_goals first | exact Exists.intro ⟨i + 1, aa + 1, bb + 1, hh⟩ ⟨fitsD [0, 1], ⟨hi, by dsimp only; omega, by dsimp only; omega, g4, by dsimp only; omega, by dsimp only; omega⟩, by dsimp only; omega⟩ | (exfalso; omega)
        · rw [if_neg (by omega)] at g3
          by_cases h3 : sl = q
          · rw [decide_eq_true (show k = 3 ∧ sl = q from ⟨h1, h3⟩), Bool.true_or, Bool.or_true] at g4
            repeat' first
              | refine st (h := ok_not_dec2 rfl) ?_
              | refine sd (h := ok_not_dec2 rfl) ?_
              | refine st (v := .int .i64 q) (h := by (rw [← hq]; apply ok_rem_pos; rfl; rfl; omega)) ?_
              | refine sd (v := .int .i64 q) (h := by (rw [← hq]; apply ok_rem_pos; rfl; rfl; omega)) ?_
              | refine st (v := .int .i64 v) (h := by (rw [← hv]; apply ok_quo64; rfl; rfl; omega)) ?_
              | refine sd (v := .int .i64 v) (h := by (rw [← hv]; apply ok_quo64; rfl; rfl; omega)) ?_
              | refine st (v := .int .i64 kk) (h := by (rw [← hk]; apply ok_rem_pos; rfl; rfl; omega)) ?_
              | refine sd (v := .int .i64 kk) (h := by (rw [← hk]; apply ok_rem_pos; rfl; rfl; omega)) ?_
              | refine st (v := .int .i64 w) (h := by (rw [← hw]; apply ok_mul64; rfl; rfl; (rw [hw]; omega))) ?_
              | refine sd (v := .int .i64 w) (h := by (rw [← hw]; apply ok_mul64; rfl; rfl; (rw [hw]; omega))) ?_
              | refine st (h := ok_load_rowsE (f := tcC) (cs := [.int .i64 sl, .int .i64 of, .int .i64 k, .bool sd_, .int .i64 pe, .int .i64 fl]) (i) (fun _ => rfl) hc rfl rfl rfl rfl (by omega)) ?_
              | refine st ?_
              | refine stm ?_
              | refine run_want rfl rfl ?_
              | refine run_unwant rfl rfl ?_
              | refine run_undef rfl rfl ?_
              | refine run_guard1t rfl rfl (by omega) ?_
              | refine run_guard1f rfl rfl (by omega) ?_
              | refine run_guard0t rfl rfl (by omega) ?_
              | refine run_guard0f rfl rfl (by omega) ?_
              | refine run_guard1 rfl rfl (fun h1 => ?_) (fun h1 => ?_)
              | refine run_guard0 rfl rfl (fun h1 => ?_) (fun h1 => ?_)
              | refine run_guard rfl rfl (fun h1 => ?_) (fun h1 => ?_)
              | refine run_nil ?_
              | refine sd ?_
              | refine sdl ?_
              | refine sdm (n := 1) ?_
              | refine sdm ?_
              | refine sdb ?_
              | refine rund_want rfl rfl ?_
              | refine rund_unwant rfl rfl ?_
              | refine rund_undef rfl rfl ?_
              | refine rund_guard1 rfl rfl (fun h1 => ?_) (fun h1 => ?_)
              | refine rund_guard0 rfl rfl (fun h1 => ?_) (fun h1 => ?_)
              | refine rund_guard rfl rfl (fun h1 => ?_) (fun h1 => ?_)
              | refine rund_nil ?_
              | refine aw_seq ?_
              | refine aw_region (by kernel_rfl) (Nat.le_of_ble_eq_true rfl) ?_
              | refine aw_region_dC (id := 10) [0, 1, 0, 0, 8, 28, 63] 7 (by (repeat constructor)) (by kernel_rfl) (by kernel_rfl) (by kernel_rfl) (by rfl) ?_
              | refine aw_region_dC (id := 12) [0, 1, 0, 0, 8, 28, 63] 7 (by (repeat constructor)) (by kernel_rfl) (by kernel_rfl) (by kernel_rfl) (by rfl) ?_
              | refine aw_block ?_
              | refine aw_cond_t rfl ?_
              | refine aw_cond_f rfl ?_
              | refine aw_cond_tp rfl (by omega) ?_
              | refine aw_cond_fp rfl (by omega) ?_
              | refine aw_cond1 rfl (fun h1 => ?_) (fun h1 => ?_)
              | refine aw_cond rfl (fun h1 => ?_) (fun h1 => ?_)
              | refine aw_skip ?_
              | refine aw_exit ?_
              | refine aw_ret ?_
              | refine pp_ret ?_
              | refine pp_normal ?_
            all_goals first | exact Exists.intro ⟨i + 1, aa + 1, bb, true⟩ ⟨fitsD [0, 1], ⟨hi, by dsimp only; omega, by dsimp only; omega, g4, by dsimp only; omega, by dsimp only; omega⟩, by dsimp only; omega⟩ | (exfalso; omega)
          · rw [decide_eq_false (show ¬ (k = 3 ∧ sl = q) by omega), Bool.false_or] at g4
            repeat' first
              | refine st (h := ok_not_dec2 rfl) ?_
              | refine sd (h := ok_not_dec2 rfl) ?_
              | refine st (v := .int .i64 q) (h := by (rw [← hq]; apply ok_rem_pos; rfl; rfl; omega)) ?_
              | refine sd (v := .int .i64 q) (h := by (rw [← hq]; apply ok_rem_pos; rfl; rfl; omega)) ?_
              | refine st (v := .int .i64 v) (h := by (rw [← hv]; apply ok_quo64; rfl; rfl; omega)) ?_
              | refine sd (v := .int .i64 v) (h := by (rw [← hv]; apply ok_quo64; rfl; rfl; omega)) ?_
              | refine st (v := .int .i64 kk) (h := by (rw [← hk]; apply ok_rem_pos; rfl; rfl; omega)) ?_
              | refine sd (v := .int .i64 kk) (h := by (rw [← hk]; apply ok_rem_pos; rfl; rfl; omega)) ?_
              | refine st (v := .int .i64 w) (h := by (rw [← hw]; apply ok_mul64; rfl; rfl; (rw [hw]; omega))) ?_
              | refine sd (v := .int .i64 w) (h := by (rw [← hw]; apply ok_mul64; rfl; rfl; (rw [hw]; omega))) ?_
              | refine st (h := ok_load_rowsE (f := tcC) (cs := [.int .i64 sl, .int .i64 of, .int .i64 k, .bool sd_, .int .i64 pe, .int .i64 fl]) (i) (fun _ => rfl) hc rfl rfl rfl rfl (by omega)) ?_
              | refine st ?_
              | refine stm ?_
              | refine run_want rfl rfl ?_
              | refine run_unwant rfl rfl ?_
              | refine run_undef rfl rfl ?_
              | refine run_guard1t rfl rfl (by omega) ?_
              | refine run_guard1f rfl rfl (by omega) ?_
              | refine run_guard0t rfl rfl (by omega) ?_
              | refine run_guard0f rfl rfl (by omega) ?_
              | refine run_guard1 rfl rfl (fun h1 => ?_) (fun h1 => ?_)
              | refine run_guard0 rfl rfl (fun h1 => ?_) (fun h1 => ?_)
              | refine run_guard rfl rfl (fun h1 => ?_) (fun h1 => ?_)
              | refine run_nil ?_
              | refine sd ?_
              | refine sdl ?_
              | refine sdm (n := 1) ?_
              | refine sdm ?_
              | refine sdb ?_
              | refine rund_want rfl rfl ?_
              | refine rund_unwant rfl rfl ?_
              | refine rund_undef rfl rfl ?_
              | refine rund_guard1 rfl rfl (fun h1 => ?_) (fun h1 => ?_)
              | refine rund_guard0 rfl rfl (fun h1 => ?_) (fun h1 => ?_)
              | refine rund_guard rfl rfl (fun h1 => ?_) (fun h1 => ?_)
              | refine rund_nil ?_
              | refine aw_seq ?_
              | refine aw_region (by kernel_rfl) (Nat.le_of_ble_eq_true rfl) ?_
              | refine aw_region_dC (id := 10) [0, 1, 0, 0, 8, 28, 63] 7 (by (repeat constructor)) (by kernel_rfl) (by kernel_rfl) (by kernel_rfl) (by rfl) ?_
              | refine aw_region_dC (id := 12) [0, 1, 0, 0, 8, 28, 63] 7 (by (repeat constructor)) (by kernel_rfl) (by kernel_rfl) (by kernel_rfl) (by rfl) ?_
              | refine aw_block ?_
              | refine aw_cond_t rfl ?_
              | refine aw_cond_f rfl ?_
              | refine aw_cond_tp rfl (by omega) ?_
              | refine aw_cond_fp rfl (by omega) ?_
              | refine aw_cond1 rfl (fun h1 => ?_) (fun h1 => ?_)
              | refine aw_cond rfl (fun h1 => ?_) (fun h1 => ?_)
              | refine aw_skip ?_
              | refine aw_exit ?_
              | refine aw_ret ?_
              | refine pp_ret ?_
              | refine pp_normal ?_
            all_goals first | exact Exists.intro ⟨i + 1, aa + 1, bb, hh⟩ ⟨fitsD [0, 1], ⟨hi, by dsimp only; omega, by dsimp only; omega, g4, by dsimp only; omega, by dsimp only; omega⟩, by dsimp only; omega⟩ | (exfalso; omega)
      · rw [if_neg h1] at g2
        rw [if_neg (by omega)] at g3
        rw [decide_eq_false (show ¬ (k = 3 ∧ sl = q) by omega), Bool.false_or] at g4
        repeat' first
          | refine st (h := ok_not_dec2 rfl) ?_
          | refine sd (h := ok_not_dec2 rfl) ?_
          | refine st (v := .int .i64 q) (h := by (rw [← hq]; apply ok_rem_pos; rfl; rfl; omega)) ?_
          | refine sd (v := .int .i64 q) (h := by (rw [← hq]; apply ok_rem_pos; rfl; rfl; omega)) ?_
          | refine st (v := .int .i64 v) (h := by (rw [← hv]; apply ok_quo64; rfl; rfl; omega)) ?_
          | refine sd (v := .int .i64 v) (h := by (rw [← hv]; apply ok_quo64; rfl; rfl; omega)) ?_
          | refine st (v := .int .i64 kk) (h := by (rw [← hk]; apply ok_rem_pos; rfl; rfl; omega)) ?_
          | refine sd (v := .int .i64 kk) (h := by (rw [← hk]; apply ok_rem_pos; rfl; rfl; omega)) ?_
          | refine st (v := .int .i64 w) (h := by (rw [← hw]; apply ok_mul64; rfl; rfl; (rw [hw]; omega))) ?_
          | refine sd (v := .int .i64 w) (h := by (rw [← hw]; apply ok_mul64; rfl; rfl; (rw [hw]; omega))) ?_
          | refine st (h := ok_load_rowsE (f := tcC) (cs := [.int .i64 sl, .int .i64 of, .int .i64 k, .bool sd_, .int .i64 pe, .int .i64 fl]) (i) (fun _ => rfl) hc rfl rfl rfl rfl (by omega)) ?_
          | refine st ?_
          | refine stm ?_
          | refine run_want rfl rfl ?_
          | refine run_unwant rfl rfl ?_
          | refine run_undef rfl rfl ?_
          | refine run_guard1t rfl rfl (by omega) ?_
          | refine run_guard1f rfl rfl (by omega) ?_
          | refine run_guard0t rfl rfl (by omega) ?_
          | refine run_guard0f rfl rfl (by omega) ?_
          | refine run_guard1 rfl rfl (fun h1 => ?_) (fun h1 => ?_)
          | refine run_guard0 rfl rfl (fun h1 => ?_) (fun h1 => ?_)
          | refine run_guard rfl rfl (fun h1 => ?_) (fun h1 => ?_)
          | refine run_nil ?_
          | refine sd ?_
          | refine sdl ?_
          | refine sdm (n := 1) ?_
          | refine sdm ?_
          | refine sdb ?_
          | refine rund_want rfl rfl ?_
          | refine rund_unwant rfl rfl ?_
          | refine rund_undef rfl rfl ?_
          | refine rund_guard1 rfl rfl (fun h1 => ?_) (fun h1 => ?_)
          | refine rund_guard0 rfl rfl (fun h1 => ?_) (fun h1 => ?_)
          | refine rund_guard rfl rfl (fun h1 => ?_) (fun h1 => ?_)
          | refine rund_nil ?_
          | refine aw_seq ?_
          | refine aw_region (by kernel_rfl) (Nat.le_of_ble_eq_true rfl) ?_
          | refine aw_region_dC (id := 10) [0, 1, 0, 0, 8, 28, 63] 7 (by (repeat constructor)) (by kernel_rfl) (by kernel_rfl) (by kernel_rfl) (by rfl) ?_
          | refine aw_region_dC (id := 12) [0, 1, 0, 0, 8, 28, 63] 7 (by (repeat constructor)) (by kernel_rfl) (by kernel_rfl) (by kernel_rfl) (by rfl) ?_
          | refine aw_block ?_
          | refine aw_cond_t rfl ?_
          | refine aw_cond_f rfl ?_
          | refine aw_cond_tp rfl (by omega) ?_
          | refine aw_cond_fp rfl (by omega) ?_
          | refine aw_cond1 rfl (fun h1 => ?_) (fun h1 => ?_)
          | refine aw_cond rfl (fun h1 => ?_) (fun h1 => ?_)
          | refine aw_skip ?_
          | refine aw_exit ?_
          | refine aw_ret ?_
          | refine pp_ret ?_
          | refine pp_normal ?_
        all_goals first | exact Exists.intro ⟨i + 1, aa, bb, hh⟩ ⟨fitsD [0, 1], ⟨hi, by dsimp only; omega, by dsimp only; omega, g4, by dsimp only; omega, by dsimp only; omega⟩, by dsimp only; omega⟩ | (exfalso; omega)
    · obtain rfl : n = i := by omega
      rw [List.drop_of_length_le (by omega)] at g2 g3 g4
      simp only [shN, shB, shH, Bool.or_false] at g2 g3 g4
      rw [hsh1.symm] at g4
      obtain rfl : a = aa := by omega
      cases d
      · obtain rfl : hh = false := g4.symm
        rw [if_neg (by simp)] at hx
        obtain ⟨rfl, rfl⟩ := Prod.mk.inj hx.symm
        repeat' first
          | refine st (h := ok_not_dec2 rfl) ?_
          | refine sd (h := ok_not_dec2 rfl) ?_
          | refine st (v := .int .i64 q) (h := by (rw [← hq]; apply ok_rem_pos; rfl; rfl; omega)) ?_
          | refine sd (v := .int .i64 q) (h := by (rw [← hq]; apply ok_rem_pos; rfl; rfl; omega)) ?_
          | refine st (v := .int .i64 v) (h := by (rw [← hv]; apply ok_quo64; rfl; rfl; omega)) ?_
          | refine sd (v := .int .i64 v) (h := by (rw [← hv]; apply ok_quo64; rfl; rfl; omega)) ?_
          | refine st (v := .int .i64 kk) (h := by (rw [← hk]; apply ok_rem_pos; rfl; rfl; omega)) ?_
          | refine sd (v := .int .i64 kk) (h := by (rw [← hk]; apply ok_rem_pos; rfl; rfl; omega)) ?_
          | refine st (v := .int .i64 w) (h := by (rw [← hw]; apply ok_mul64; rfl; rfl; (rw [hw]; omega))) ?_
          | refine sd (v := .int .i64 w) (h := by (rw [← hw]; apply ok_mul64; rfl; rfl; (rw [hw]; omega))) ?_
          | refine st (h := ok_load_rowsE (f := tcC) (cs := [.int .i64 sl, .int .i64 of, .int .i64 k, .bool sd_, .int .i64 pe, .int .i64 fl]) (i) (fun _ => rfl) hc rfl rfl rfl rfl (by omega)) ?_
          | refine st ?_
          | refine stm ?_
          | refine run_want rfl rfl ?_
          | refine run_unwant rfl rfl ?_
          | refine run_undef rfl rfl ?_
          | refine run_guard1t rfl rfl (by omega) ?_
          | refine run_guard1f rfl rfl (by omega) ?_
          | refine run_guard0t rfl rfl (by omega) ?_
          | refine run_guard0f rfl rfl (by omega) ?_
          | refine run_guard1 rfl rfl (fun h1 => ?_) (fun h1 => ?_)
          | refine run_guard0 rfl rfl (fun h1 => ?_) (fun h1 => ?_)
          | refine run_guard rfl rfl (fun h1 => ?_) (fun h1 => ?_)
          | refine run_nil ?_
          | refine sd ?_
          | refine sdl ?_
          | refine sdm (n := 1) ?_
          | refine sdm ?_
          | refine sdb ?_
          | refine rund_want rfl rfl ?_
          | refine rund_unwant rfl rfl ?_
          | refine rund_undef rfl rfl ?_
          | refine rund_guard1 rfl rfl (fun h1 => ?_) (fun h1 => ?_)
          | refine rund_guard0 rfl rfl (fun h1 => ?_) (fun h1 => ?_)
          | refine rund_guard rfl rfl (fun h1 => ?_) (fun h1 => ?_)
          | refine rund_nil ?_
          | refine aw_seq ?_
          | refine aw_region (by kernel_rfl) (Nat.le_of_ble_eq_true rfl) ?_
          | refine aw_region_dC (id := 10) [0, 1, 0, 0, 8, 28, 63] 7 (by (repeat constructor)) (by kernel_rfl) (by kernel_rfl) (by kernel_rfl) (by rfl) ?_
          | refine aw_region_dC (id := 12) [0, 1, 0, 0, 8, 28, 63] 7 (by (repeat constructor)) (by kernel_rfl) (by kernel_rfl) (by kernel_rfl) (by rfl) ?_
          | refine aw_block ?_
          | refine aw_cond_t rfl ?_
          | refine aw_cond_f rfl ?_
          | refine aw_cond_tp rfl (by omega) ?_
          | refine aw_cond_fp rfl (by omega) ?_
          | refine aw_cond1 rfl (fun h1 => ?_) (fun h1 => ?_)
          | refine aw_cond rfl (fun h1 => ?_) (fun h1 => ?_)
          | refine aw_skip ?_
          | refine aw_exit ?_
          | refine aw_ret ?_
          | refine pp_ret ?_
          | refine pp_normal ?_
        all_goals first
          | rfl
          | (exfalso; omega)
          | (exfalso; simp only [Bool.not_eq_true', Bool.not_eq_false', decide_eq_true_eq, decide_eq_false_iff_not, Bool.not_false, Bool.not_true] at *; omega)
          | (exfalso; simp_all; first | done | omega)
      · obtain rfl : hh = true := g4.symm
        obtain rfl : bb = e := by rw [hsh2 rfl]; omega
        rw [if_pos rfl] at hx
        obtain ⟨rfl, rfl⟩ := Prod.mk.inj hx.symm
        repeat' first
          | refine st (h := ok_not_dec2 rfl) ?_
          | refine sd (h := ok_not_dec2 rfl) ?_
          | refine st (v := .int .i64 q) (h := by (rw [← hq]; apply ok_rem_pos; rfl; rfl; omega)) ?_
          | refine sd (v := .int .i64 q) (h := by (rw [← hq]; apply ok_rem_pos; rfl; rfl; omega)) ?_
          | refine st (v := .int .i64 v) (h := by (rw [← hv]; apply ok_quo64; rfl; rfl; omega)) ?_
          | refine sd (v := .int .i64 v) (h := by (rw [← hv]; apply ok_quo64; rfl; rfl; omega)) ?_
          | refine st (v := .int .i64 kk) (h := by (rw [← hk]; apply ok_rem_pos; rfl; rfl; omega)) ?_
          | refine sd (v := .int .i64 kk) (h := by (rw [← hk]; apply ok_rem_pos; rfl; rfl; omega)) ?_
          | refine st (v := .int .i64 w) (h := by (rw [← hw]; apply ok_mul64; rfl; rfl; (rw [hw]; omega))) ?_
          | refine sd (v := .int .i64 w) (h := by (rw [← hw]; apply ok_mul64; rfl; rfl; (rw [hw]; omega))) ?_
          | refine st (h := ok_load_rowsE (f := tcC) (cs := [.int .i64 sl, .int .i64 of, .int .i64 k, .bool sd_, .int .i64 pe, .int .i64 fl]) (i) (fun _ => rfl) hc rfl rfl rfl rfl (by omega)) ?_
          | refine st ?_
          | refine stm ?_
          | refine run_want rfl rfl ?_
          | refine run_unwant rfl rfl ?_
          | refine run_undef rfl rfl ?_
          | refine run_guard1t rfl rfl (by omega) ?_
          | refine run_guard1f rfl rfl (by omega) ?_
          | refine run_guard0t rfl rfl (by omega) ?_
          | refine run_guard0f rfl rfl (by omega) ?_
          | refine run_guard1 rfl rfl (fun h1 => ?_) (fun h1 => ?_)
          | refine run_guard0 rfl rfl (fun h1 => ?_) (fun h1 => ?_)
          | refine run_guard rfl rfl (fun h1 => ?_) (fun h1 => ?_)
          | refine run_nil ?_
          | refine sd ?_
          | refine sdl ?_
          | refine sdm (n := 1) ?_
          | refine sdm ?_
          | refine sdb ?_
          | refine rund_want rfl rfl ?_
          | refine rund_unwant rfl rfl ?_
          | refine rund_undef rfl rfl ?_
          | refine rund_guard1 rfl rfl (fun h1 => ?_) (fun h1 => ?_)
          | refine rund_guard0 rfl rfl (fun h1 => ?_) (fun h1 => ?_)
          | refine rund_guard rfl rfl (fun h1 => ?_) (fun h1 => ?_)
          | refine rund_nil ?_
          | refine aw_seq ?_
          | refine aw_region (by kernel_rfl) (Nat.le_of_ble_eq_true rfl) ?_
          | refine aw_region_dC (id := 10) [0, 1, 0, 0, 8, 28, 63] 7 (by (repeat constructor)) (by kernel_rfl) (by kernel_rfl) (by kernel_rfl) (by rfl) ?_
          | refine aw_region_dC (id := 12) [0, 1, 0, 0, 8, 28, 63] 7 (by (repeat constructor)) (by kernel_rfl) (by kernel_rfl) (by kernel_rfl) (by rfl) ?_
          | refine aw_block ?_
          | refine aw_cond_t rfl ?_
          | refine aw_cond_f rfl ?_
          | refine aw_cond_tp rfl (by omega) ?_
          | refine aw_cond_fp rfl (by omega) ?_
          | refine aw_cond1 rfl (fun h1 => ?_) (fun h1 => ?_)
          | refine aw_cond rfl (fun h1 => ?_) (fun h1 => ?_)
          | refine aw_skip ?_
          | refine aw_exit ?_
          | refine aw_ret ?_
          | refine pp_ret ?_
          | refine pp_normal ?_
        all_goals first
          | rfl
          | (exfalso; omega)
          | (exfalso; simp only [Bool.not_eq_true', Bool.not_eq_false', decide_eq_true_eq, decide_eq_false_iff_not, Bool.not_false, Bool.not_true] at *; omega)
          | (exfalso; simp_all; first | done | omega)
end Go.Proofs.Ytfabgdignlfihaa
