/- Gossip: Valid. -/
import Derived.Test.YtcojimifplhodaaGC
set_option linter.unusedVariables false
set_option linter.unusedSimpArgs false
namespace Go.Proofs.Ytcojimifplhodaa
open Go Av
set_option maxRecDepth 20000
theorem ac_inside (n l h : Int) : ACalls Try.prog 29 [.int .i64 n, .int .i64 l, .int .i64 h] [] (.bool (decide (l ≤ n ∧ n < h))) [] := by
  refine acalls_pure Try.func29 rfl rfl rfl ?_
  repeat' first
    | refine st ?_
    | refine stm ?_
    | refine run_want rfl rfl ?_
    | refine run_unwant rfl rfl ?_
    | refine run_undef rfl rfl ?_
    | refine run_guard1t rfl rfl (by omega) ?_
    | refine run_guard1f rfl rfl (by omega) ?_
    | refine run_guard0t rfl rfl (by omega) ?_
    | refine run_guard0f rfl rfl (by omega) ?_
    | refine run_guard1 rfl rfl (fun h1 => ?_) (fun h1 => ?_)
    | refine run_guard0 rfl rfl (fun h1 => ?_) (fun h1 => ?_)
    | refine run_guard rfl rfl (fun h1 => ?_) (fun h1 => ?_)
    | refine run_nil ?_
    | refine aw_seq ?_
    | refine aw_region (by kernel_rfl) (Nat.le_of_ble_eq_true rfl) ?_
    | refine aw_block ?_
    | refine aw_cond_t rfl ?_
    | refine aw_cond_f rfl ?_
    | refine aw_cond_tp rfl (by omega) ?_
    | refine aw_cond_fp rfl (by omega) ?_
    | refine aw_cond1 rfl (fun h1 => ?_) (fun h1 => ?_)
    | refine aw_cond rfl (fun h1 => ?_) (fun h1 => ?_)
    | refine aw_skip ?_
    | refine aw_exit ?_
    | refine aw_ret ?_
    | refine pp_ret ?_
    | refine pp_normal ?_
  all_goals first
    | (show Value.bool _ = Value.bool _; congr 1; first | exact (decide_eq_false (by omega)).symm | exact (decide_eq_true (by omega)).symm | exact decide_eq_decide.2 (by omega))
structure Vg where
  k : Nat
  z : Bool
set_option maxHeartbeats 2000000 in
theorem ac_valid0 (l d e i b p h : Int) (hv : vE l d e ⟨i, b, p, h⟩ = 0) : ACalls Try.prog 16 [.agg #[.int .i64 l, .int .i64 d, .int .i64 e], .agg #[.int .i64 i, .int .i64 b, .int .i64 p, .int .i64 h]] [] (.int .i64 0) [] := by
  obtain ⟨hg, l1, l2, d1, d2, e1, e2, i1, i2, b1, b2, p1, p2, h1, h2⟩ := vE_ok hv
  dsimp only at i1 i2 b1 b2 p1 p2 h1 h2
  have hk : kn i l (d + 1).toNat = true := by
    have := (vE_out hv).2
    unfold vok at this
    simp only [Bool.and_eq_true] at this
    exact this.1
  have HC := ac_gcheck l d e 0 (gE_0 (by omega)).symm
  refine acalls_law Try.func16 rfl rfl rfl ?_
  repeat' first
    | refine st ?_
    | refine st_call HC ?_
    | refine stm ?_
    | refine run_want rfl rfl ?_
    | refine run_unwant rfl rfl ?_
    | refine run_undef rfl rfl ?_
    | refine run_guard1t rfl rfl (by omega) ?_
    | refine run_guard1f rfl rfl (by omega) ?_
    | refine run_guard0t rfl rfl (by omega) ?_
    | refine run_guard0f rfl rfl (by omega) ?_
    | refine run_guard1 rfl rfl (fun h1 => ?_) (fun h1 => ?_)
    | refine run_guard0 rfl rfl (fun h1 => ?_) (fun h1 => ?_)
    | refine run_guard rfl rfl (fun h1 => ?_) (fun h1 => ?_)
    | refine run_nil ?_
    | refine sd ?_
    | refine sdl ?_
    | refine sdm (n := 1) ?_
    | refine sdm ?_
    | refine sdb ?_
    | refine rund_want rfl rfl ?_
    | refine rund_unwant rfl rfl ?_
    | refine rund_undef rfl rfl ?_
    | refine rund_guard1 rfl rfl (fun h1 => ?_) (fun h1 => ?_)
    | refine rund_guard0 rfl rfl (fun h1 => ?_) (fun h1 => ?_)
    | refine rund_guard rfl rfl (fun h1 => ?_) (fun h1 => ?_)
    | refine rund_nil ?_
    | refine aw_seq ?_
    | refine aw_region (by kernel_rfl) (Nat.le_of_ble_eq_true rfl) ?_
    | refine aw_region_d (id := 8) [0, 1, 3, 7, 3, 19, 3, 115, 255, 511, 1023] 11 (by kernel_rfl) (by kernel_rfl) (by kernel_rfl) (Nat.le_of_ble_eq_true rfl) ?_
    | refine aw_block ?_
    | refine aw_cond_t rfl ?_
    | refine aw_cond_f rfl ?_
    | refine aw_cond_tp rfl (by omega) ?_
    | refine aw_cond_fp rfl (by omega) ?_
    | refine aw_cond1 rfl (fun h1 => ?_) (fun h1 => ?_)
    | refine aw_cond rfl (fun h1 => ?_) (fun h1 => ?_)
    | refine aw_skip ?_
    | refine aw_exit ?_
    | refine aw_ret ?_
    | refine pp_ret ?_
    | refine pp_normal ?_
  refine aw_loopg
    (S := fun y : Vg => [(2, .pointer (some ⟨0, 0, none⟩)), (3, .pointer (some ⟨1, 0, none⟩)), (6, .bool y.z), (16, .int .i64 (d + 1)), (17, .int .i64 y.k)])
    (B := fun _ : Vg => [some ⟨[.int .i64 l, .int .i64 d, .int .i64 e], true, 1⟩, some ⟨[.int .i64 i, .int .i64 b, .int .i64 p, .int .i64 h], true, 1⟩])
    (R := fun y : Vg => y.k ≤ (d + 1).toNat ∧ y.z = kn i l y.k)
    (μ := fun y : Vg => (d + 1).toNat - y.k) ⟨0, false⟩ (fitsD [0, 1]) ⟨Nat.zero_le _, rfl⟩ ?_
  rintro ⟨k, z⟩ ⟨g1, g2⟩
  dsimp only at *
  by_cases hlt : k < (d + 1).toNat
  · have hs := shl_l (l := l) (k := k) (by omega) l1 l2
    cases z
    · by_cases hi : i = l * 2 ^ k
      · have hn : kn i l (k + 1) = true := by rw [kn, ← g2, beq_iff_eq.2 hi]; rfl
        repeat' first
          | refine sd (h := ok_shlE hs rfl rfl (by omega)) ?_
          | refine st ?_
          | refine stm ?_
          | refine run_want rfl rfl ?_
          | refine run_unwant rfl rfl ?_
          | refine run_undef rfl rfl ?_
          | refine run_guard1t rfl rfl (by omega) ?_
          | refine run_guard1f rfl rfl (by omega) ?_
          | refine run_guard0t rfl rfl (by omega) ?_
          | refine run_guard0f rfl rfl (by omega) ?_
          | refine run_guard1 rfl rfl (fun h1 => ?_) (fun h1 => ?_)
          | refine run_guard0 rfl rfl (fun h1 => ?_) (fun h1 => ?_)
          | refine run_guard rfl rfl (fun h1 => ?_) (fun h1 => ?_)
          | refine run_nil ?_
          | refine sd ?_
          | refine sdl ?_
          | refine sdm (n := 1) ?_
          | refine sdm ?_
          | refine sdb ?_
          | refine rund_want rfl rfl ?_
          | refine rund_unwant rfl rfl ?_
          | refine rund_undef rfl rfl ?_
          | refine rund_guard1 rfl rfl (fun h1 => ?_) (fun h1 => ?_)
          | refine rund_guard0 rfl rfl (fun h1 => ?_) (fun h1 => ?_)
          | refine rund_guard rfl rfl (fun h1 => ?_) (fun h1 => ?_)
          | refine rund_nil ?_
          | refine aw_seq ?_
          | refine aw_region (by kernel_rfl) (Nat.le_of_ble_eq_true rfl) ?_
          | refine aw_region_d (id := 8) [0, 1, 3, 7, 3, 19, 3, 115, 255, 511, 1023] 11 (by kernel_rfl) (by kernel_rfl) (by kernel_rfl) (Nat.le_of_ble_eq_true rfl) ?_
          | refine aw_block ?_
          | refine aw_cond_t rfl ?_
          | refine aw_cond_f rfl ?_
          | refine aw_cond_tp rfl (by omega) ?_
          | refine aw_cond_fp rfl (by omega) ?_
          | refine aw_cond1 rfl (fun h1 => ?_) (fun h1 => ?_)
          | refine aw_cond rfl (fun h1 => ?_) (fun h1 => ?_)
          | refine aw_skip ?_
          | refine aw_exit ?_
          | refine aw_ret ?_
          | refine pp_ret ?_
          | refine pp_normal ?_
        all_goals first | exact Exists.intro ⟨k + 1, _⟩ ⟨fitsD [0, 1], ⟨by dsimp only; omega, by dsimp only; rw [hn]; first | done | rfl | exact decide_eq_true hi | exact decide_eq_false hi⟩, by dsimp only; omega⟩ | (exfalso; omega)
      · have hn : kn i l (k + 1) = false := by rw [kn, ← g2, beq_eq_false_iff_ne.2 hi]; rfl
        repeat' first
          | refine sd (h := ok_shlE hs rfl rfl (by omega)) ?_
          | refine st ?_
          | refine stm ?_
          | refine run_want rfl rfl ?_
          | refine run_unwant rfl rfl ?_
          | refine run_undef rfl rfl ?_
          | refine run_guard1t rfl rfl (by omega) ?_
          | refine run_guard1f rfl rfl (by omega) ?_
          | refine run_guard0t rfl rfl (by omega) ?_
          | refine run_guard0f rfl rfl (by omega) ?_
          | refine run_guard1 rfl rfl (fun h1 => ?_) (fun h1 => ?_)
          | refine run_guard0 rfl rfl (fun h1 => ?_) (fun h1 => ?_)
          | refine run_guard rfl rfl (fun h1 => ?_) (fun h1 => ?_)
          | refine run_nil ?_
          | refine sd ?_
          | refine sdl ?_
          | refine sdm (n := 1) ?_
          | refine sdm ?_
          | refine sdb ?_
          | refine rund_want rfl rfl ?_
          | refine rund_unwant rfl rfl ?_
          | refine rund_undef rfl rfl ?_
          | refine rund_guard1 rfl rfl (fun h1 => ?_) (fun h1 => ?_)
          | refine rund_guard0 rfl rfl (fun h1 => ?_) (fun h1 => ?_)
          | refine rund_guard rfl rfl (fun h1 => ?_) (fun h1 => ?_)
          | refine rund_nil ?_
          | refine aw_seq ?_
          | refine aw_region (by kernel_rfl) (Nat.le_of_ble_eq_true rfl) ?_
          | refine aw_region_d (id := 8) [0, 1, 3, 7, 3, 19, 3, 115, 255, 511, 1023] 11 (by kernel_rfl) (by kernel_rfl) (by kernel_rfl) (Nat.le_of_ble_eq_true rfl) ?_
          | refine aw_block ?_
          | refine aw_cond_t rfl ?_
          | refine aw_cond_f rfl ?_
          | refine aw_cond_tp rfl (by omega) ?_
          | refine aw_cond_fp rfl (by omega) ?_
          | refine aw_cond1 rfl (fun h1 => ?_) (fun h1 => ?_)
          | refine aw_cond rfl (fun h1 => ?_) (fun h1 => ?_)
          | refine aw_skip ?_
          | refine aw_exit ?_
          | refine aw_ret ?_
          | refine pp_ret ?_
          | refine pp_normal ?_
        all_goals first | exact Exists.intro ⟨k + 1, _⟩ ⟨fitsD [0, 1], ⟨by dsimp only; omega, by dsimp only; rw [hn]; first | done | rfl | exact decide_eq_true hi | exact decide_eq_false hi⟩, by dsimp only; omega⟩ | (exfalso; omega)
    · have hn : kn i l (k + 1) = true := by rw [kn, ← g2]; rfl
      repeat' first
        | refine sd (h := ok_shlE hs rfl rfl (by omega)) ?_
        | refine st ?_
        | refine stm ?_
        | refine run_want rfl rfl ?_
        | refine run_unwant rfl rfl ?_
        | refine run_undef rfl rfl ?_
        | refine run_guard1t rfl rfl (by omega) ?_
        | refine run_guard1f rfl rfl (by omega) ?_
        | refine run_guard0t rfl rfl (by omega) ?_
        | refine run_guard0f rfl rfl (by omega) ?_
        | refine run_guard1 rfl rfl (fun h1 => ?_) (fun h1 => ?_)
        | refine run_guard0 rfl rfl (fun h1 => ?_) (fun h1 => ?_)
        | refine run_guard rfl rfl (fun h1 => ?_) (fun h1 => ?_)
        | refine run_nil ?_
        | refine sd ?_
        | refine sdl ?_
        | refine sdm (n := 1) ?_
        | refine sdm ?_
        | refine sdb ?_
        | refine rund_want rfl rfl ?_
        | refine rund_unwant rfl rfl ?_
        | refine rund_undef rfl rfl ?_
        | refine rund_guard1 rfl rfl (fun h1 => ?_) (fun h1 => ?_)
        | refine rund_guard0 rfl rfl (fun h1 => ?_) (fun h1 => ?_)
        | refine rund_guard rfl rfl (fun h1 => ?_) (fun h1 => ?_)
        | refine rund_nil ?_
        | refine aw_seq ?_
        | refine aw_region (by kernel_rfl) (Nat.le_of_ble_eq_true rfl) ?_
        | refine aw_region_d (id := 8) [0, 1, 3, 7, 3, 19, 3, 115, 255, 511, 1023] 11 (by kernel_rfl) (by kernel_rfl) (by kernel_rfl) (Nat.le_of_ble_eq_true rfl) ?_
        | refine aw_block ?_
        | refine aw_cond_t rfl ?_
        | refine aw_cond_f rfl ?_
        | refine aw_cond_tp rfl (by omega) ?_
        | refine aw_cond_fp rfl (by omega) ?_
        | refine aw_cond1 rfl (fun h1 => ?_) (fun h1 => ?_)
        | refine aw_cond rfl (fun h1 => ?_) (fun h1 => ?_)
        | refine aw_skip ?_
        | refine aw_exit ?_
        | refine aw_ret ?_
        | refine pp_ret ?_
        | refine pp_normal ?_
      all_goals first | exact Exists.intro ⟨k + 1, _⟩ ⟨fitsD [0, 1], ⟨by dsimp only; omega, by dsimp only; rw [hn]; first | done | rfl | exact decide_eq_true hi | exact decide_eq_false hi⟩, by dsimp only; omega⟩ | (exfalso; omega)
  · obtain rfl : k = (d + 1).toNat := by omega
    rw [hk] at g2
    subst g2
    repeat' first
      | refine st ?_
      | refine st_call (ac_inside _ _ _) ?_
      | refine sd_call (ac_inside _ _ _) ?_
      | refine stm ?_
      | refine run_want rfl rfl ?_
      | refine run_unwant rfl rfl ?_
      | refine run_undef rfl rfl ?_
      | refine run_guard1t rfl rfl (by omega) ?_
      | refine run_guard1f rfl rfl (by omega) ?_
      | refine run_guard0t rfl rfl (by omega) ?_
      | refine run_guard0f rfl rfl (by omega) ?_
      | refine run_guard1 rfl rfl (fun h1 => ?_) (fun h1 => ?_)
      | refine run_guard0 rfl rfl (fun h1 => ?_) (fun h1 => ?_)
      | refine run_guard rfl rfl (fun h1 => ?_) (fun h1 => ?_)
      | refine run_nil ?_
      | refine sd ?_
      | refine sdl ?_
      | refine sdm (n := 1) ?_
      | refine sdm ?_
      | refine sdb ?_
      | refine rund_want rfl rfl ?_
      | refine rund_unwant rfl rfl ?_
      | refine rund_undef rfl rfl ?_
      | refine rund_guard1 rfl rfl (fun h1 => ?_) (fun h1 => ?_)
      | refine rund_guard0 rfl rfl (fun h1 => ?_) (fun h1 => ?_)
      | refine rund_guard rfl rfl (fun h1 => ?_) (fun h1 => ?_)
      | refine rund_nil ?_
      | refine aw_seq ?_
      | refine aw_region (by kernel_rfl) (Nat.le_of_ble_eq_true rfl) ?_
      | refine aw_region_d (id := 8) [0, 1, 3, 7, 3, 19, 3, 115, 255, 511, 1023] 11 (by kernel_rfl) (by kernel_rfl) (by kernel_rfl) (Nat.le_of_ble_eq_true rfl) ?_
      | refine aw_block ?_
      | refine aw_cond_t rfl ?_
      | refine aw_cond_f rfl ?_
      | refine aw_cond_tp rfl (by omega) ?_
      | refine aw_cond_fp rfl (by omega) ?_
      | refine aw_cond1 rfl (fun h1 => ?_) (fun h1 => ?_)
      | refine aw_cond rfl (fun h1 => ?_) (fun h1 => ?_)
      | refine aw_skip ?_
      | refine aw_exit ?_
      | refine aw_ret ?_
      | refine pp_ret ?_
      | refine pp_normal ?_
    all_goals first | rfl | (exfalso; omega) | (exfalso; simp only [Bool.not_eq_true', Bool.not_eq_false', decide_eq_true_eq, decide_eq_false_iff_not, Bool.not_false, Bool.not_true] at *; omega)
end Go.Proofs.Ytcojimifplhodaa
