/- DigestStream: the law. -/
import Derived.Test.YtnicgkhffingmaaS1
import Derived.Test.YtnicgkhffingmaaS2
import Derived.Test.YtnicgkhffingmaaS3
import Derived.Test.YtnicgkhffingmaaS4
import Derived.Test.YtnicgkhffingmaaS5
import Derived.Test.YtnicgkhffingmaaD14
set_option linter.unusedVariables false
set_option linter.unusedSimpArgs false
namespace Go.Proofs.Ytnicgkhffingmaa
open Go Av
set_option maxRecDepth 20000
theorem law_big (n : Nat) (h : 20 < n) : ACalls Try.prog 3 [.slice (some ⟨0, 0, none⟩) n n] [some ⟨[], false, 1⟩] (.bool true) [none] := by
  have HK := ac_awake
  refine acalls_law Try.func3 rfl rfl rfl ?_
  repeat' first
    | refine st ?_
    | refine st_call (HK) ?_
    | refine sd_call (HK) ?_
    | refine stm ?_
    | refine run_want rfl rfl ?_
    | refine run_unwant rfl rfl ?_
    | refine run_undef rfl rfl ?_
    | refine run_guard1t rfl rfl (by omega) ?_
    | refine run_guard1f rfl rfl (by omega) ?_
    | refine run_guard0t rfl rfl (by omega) ?_
    | refine run_guard0f rfl rfl (by omega) ?_
    | refine run_guard1 rfl rfl (fun h1 => ?_) (fun h1 => ?_)
    | refine run_guard0 rfl rfl (fun h1 => ?_) (fun h1 => ?_)
    | refine run_guard rfl rfl (fun h1 => ?_) (fun h1 => ?_)
    | refine run_nil ?_
    | refine aw_seq ?_
    | refine aw_region (by kernel_rfl) (Nat.le_of_ble_eq_true rfl) ?_
    | refine aw_block ?_
    | refine aw_cond_t rfl ?_
    | refine aw_cond_f rfl ?_
    | refine aw_cond_tp rfl (by omega) ?_
    | refine aw_cond_fp rfl (by omega) ?_
    | refine aw_cond1 rfl (fun h1 => ?_) (fun h1 => ?_)
    | refine aw_cond rfl (fun h1 => ?_) (fun h1 => ?_)
    | refine aw_skip ?_
    | refine aw_exit ?_
    | refine aw_ret ?_
    | refine pp_ret ?_
    | refine pp_normal ?_
  all_goals first | rfl | (exfalso; omega) | (simp [retOf]; done) | exact absurd rfl h1 | (exfalso; simp_all; done)
set_option maxHeartbeats 16000000 in
theorem law_stream (n : Nat) (R : Nat → List ByteArray) (hn : n ≤ 20) : ACalls Try.prog 3 [.slice (some ⟨0, 0, none⟩) n n] [some ⟨rowsC R n, false, 1⟩, some ⟨(R 0).map Value.string, false, 1⟩, some ⟨(R 1).map Value.string, false, 1⟩, some ⟨(R 2).map Value.string, false, 1⟩, some ⟨(R 3).map Value.string, false, 1⟩, some ⟨(R 4).map Value.string, false, 1⟩, some ⟨(R 5).map Value.string, false, 1⟩, some ⟨(R 6).map Value.string, false, 1⟩, some ⟨(R 7).map Value.string, false, 1⟩, some ⟨(R 8).map Value.string, false, 1⟩, some ⟨(R 9).map Value.string, false, 1⟩, some ⟨(R 10).map Value.string, false, 1⟩, some ⟨(R 11).map Value.string, false, 1⟩, some ⟨(R 12).map Value.string, false, 1⟩, some ⟨(R 13).map Value.string, false, 1⟩, some ⟨(R 14).map Value.string, false, 1⟩, some ⟨(R 15).map Value.string, false, 1⟩, some ⟨(R 16).map Value.string, false, 1⟩, some ⟨(R 17).map Value.string, false, 1⟩, some ⟨(R 18).map Value.string, false, 1⟩, some ⟨(R 19).map Value.string, false, 1⟩] (.bool true) [none, none, none, none, none, none, none, none, none, none, none, none, none, none, none, none, none, none, none, none, none] := by
  have HK := ac_awake
  have HN := ac_New
  have hc0 : Hin .empty [] 0 0 0 [(iv0 0), 3144134277, 1013904242, 2773480762, 1359893119, 2600822924, 528734635, 1541459225] := ⟨rfl, rfl, rfl, by decide, rfl⟩
  refine acalls_law Try.func3 rfl rfl rfl ?_
  repeat' first
    | refine st ?_
    | refine st_call (HK) ?_
    | refine sd_call (HK) ?_
    | refine stMW [] HN ?_
    | refine stm ?_
    | refine run_want rfl rfl ?_
    | refine run_unwant rfl rfl ?_
    | refine run_undef rfl rfl ?_
    | refine run_guard1t rfl rfl (by omega) ?_
    | refine run_guard1f rfl rfl (by omega) ?_
    | refine run_guard0t rfl rfl (by omega) ?_
    | refine run_guard0f rfl rfl (by omega) ?_
    | refine run_guard1 rfl rfl (fun h1 => ?_) (fun h1 => ?_)
    | refine run_guard0 rfl rfl (fun h1 => ?_) (fun h1 => ?_)
    | refine run_guard rfl rfl (fun h1 => ?_) (fun h1 => ?_)
    | refine run_nil ?_
    | refine aw_seq ?_
    | refine aw_region (by kernel_rfl) (Nat.le_of_ble_eq_true rfl) ?_
    | refine aw_block ?_
    | refine aw_cond_t rfl ?_
    | refine aw_cond_f rfl ?_
    | refine aw_cond_tp rfl (by omega) ?_
    | refine aw_cond_fp rfl (by omega) ?_
    | refine aw_cond1 rfl (fun h1 => ?_) (fun h1 => ?_)
    | refine aw_cond rfl (fun h1 => ?_) (fun h1 => ?_)
    | refine aw_skip ?_
    | refine aw_exit ?_
    | refine aw_ret ?_
    | refine pp_ret ?_
    | refine pp_normal ?_
  refine aw_loopg
    (S := fun y : Wd => [(3, .pointer (some ⟨21, 0, none⟩)), (4, .string y.A), (17, .slice (some ⟨0, 0, none⟩) n n), (18, .int .i64 n), (19, .int .i64 y.i)])
    (B := fun y : Wd => [some ⟨rowsC R n, false, 1⟩, some ⟨(R 0).map Value.string, false, 1⟩, some ⟨(R 1).map Value.string, false, 1⟩, some ⟨(R 2).map Value.string, false, 1⟩, some ⟨(R 3).map Value.string, false, 1⟩, some ⟨(R 4).map Value.string, false, 1⟩, some ⟨(R 5).map Value.string, false, 1⟩, some ⟨(R 6).map Value.string, false, 1⟩, some ⟨(R 7).map Value.string, false, 1⟩, some ⟨(R 8).map Value.string, false, 1⟩, some ⟨(R 9).map Value.string, false, 1⟩, some ⟨(R 10).map Value.string, false, 1⟩, some ⟨(R 11).map Value.string, false, 1⟩, some ⟨(R 12).map Value.string, false, 1⟩, some ⟨(R 13).map Value.string, false, 1⟩, some ⟨(R 14).map Value.string, false, 1⟩, some ⟨(R 15).map Value.string, false, 1⟩, some ⟨(R 16).map Value.string, false, 1⟩, some ⟨(R 17).map Value.string, false, 1⟩, some ⟨(R 18).map Value.string, false, 1⟩, some ⟨(R 19).map Value.string, false, 1⟩, some ⟨[.int .u32 y.c0, .int .u32 y.c1, .int .u32 y.c2, .int .u32 y.c3, .int .u32 y.c4, .int .u32 y.c5, .int .u32 y.c6, .int .u32 y.c7, .slice (some ⟨22, y.o, none⟩) y.m y.m, .int .u64 y.t, .int .i64 y.A.size], true, 1⟩, some ⟨y.L.map u8v, true, 1⟩])
    (R := fun y : Wd => y.i ≤ n ∧ y.A.size ≤ 1200 * y.i ∧ Hin y.A y.L y.o y.m y.t [y.c0, y.c1, y.c2, y.c3, y.c4, y.c5, y.c6, y.c7])
    (μ := fun y : Wd => n - y.i) ⟨0, .empty, [], 0, 0, 0, (iv0 0), 3144134277, 1013904242, 2773480762, 1359893119, 2600822924, 528734635, 1541459225⟩ (fitsD [0, 1, 2, 3, 4, 5, 6, 7, 8, 9, 10, 11, 12, 13, 14, 15, 16, 17, 18, 19, 20, 21, 22] (h4 := by ((refine MemD.blk rfl (WkL.ofEq (rows_ren hn (gof_id _ _)).symm) rfl ?_); (repeat (first | exact MemD.nil | (apply MemD.blk; rfl; (first | exact WkL.refl _ | exact WkL.ofEq (renL_map (fun _ => rfl) _).symm | (focus ((repeat (first | exact WkL.nil | (apply WkL.cons; exact Wk.refl _))); first | done | fail))); rfl)))))) ⟨Nat.zero_le _, Nat.le_refl _, hc0⟩ ?_
  clear hc0 HK HN
  rintro ⟨i, A, L, o, m, t, c0, c1, c2, c3, c4, c5, c6, c7⟩ ⟨g1, g2, g3⟩
  dsimp only at g1 g2 g3 ⊢
  by_cases hi : i < n
  · have hi20 : i = 0 ∨ i = 1 ∨ i = 2 ∨ i = 3 ∨ i = 4 ∨ i = 5 ∨ i = 6 ∨ i = 7 ∨ i = 8 ∨ i = 9 ∨ i = 10 ∨ i = 11 ∨ i = 12 ∨ i = 13 ∨ i = 14 ∨ i = 15 ∨ i = 16 ∨ i = 17 ∨ i = 18 ∨ i = 19 := by omega
    rcases hi20 with e | e | e | e | e | e | e | e | e | e | e | e | e | e | e | e | e | e | e | e
    · by_cases hk : (R 0).length = 0
      · exact ds_e0 R n i hn hi A L o m t c0 c1 c2 c3 c4 c5 c6 c7 g2 g3 (fun σ m h => h) e hk
      · exact ds_r0 R n i hn hi A L o m t c0 c1 c2 c3 c4 c5 c6 c7 g2 g3 (fun σ m h => h) e _ rfl (by omega)
    · by_cases hk : (R 1).length = 0
      · exact ds_e1 R n i hn hi A L o m t c0 c1 c2 c3 c4 c5 c6 c7 g2 g3 (fun σ m h => h) e hk
      · exact ds_r1 R n i hn hi A L o m t c0 c1 c2 c3 c4 c5 c6 c7 g2 g3 (fun σ m h => h) e _ rfl (by omega)
    · by_cases hk : (R 2).length = 0
      · exact ds_e2 R n i hn hi A L o m t c0 c1 c2 c3 c4 c5 c6 c7 g2 g3 (fun σ m h => h) e hk
      · exact ds_r2 R n i hn hi A L o m t c0 c1 c2 c3 c4 c5 c6 c7 g2 g3 (fun σ m h => h) e _ rfl (by omega)
    · by_cases hk : (R 3).length = 0
      · exact ds_e3 R n i hn hi A L o m t c0 c1 c2 c3 c4 c5 c6 c7 g2 g3 (fun σ m h => h) e hk
      · exact ds_r3 R n i hn hi A L o m t c0 c1 c2 c3 c4 c5 c6 c7 g2 g3 (fun σ m h => h) e _ rfl (by omega)
    · by_cases hk : (R 4).length = 0
      · exact ds_e4 R n i hn hi A L o m t c0 c1 c2 c3 c4 c5 c6 c7 g2 g3 (fun σ m h => h) e hk
      · exact ds_r4 R n i hn hi A L o m t c0 c1 c2 c3 c4 c5 c6 c7 g2 g3 (fun σ m h => h) e _ rfl (by omega)
    · by_cases hk : (R 5).length = 0
      · exact ds_e5 R n i hn hi A L o m t c0 c1 c2 c3 c4 c5 c6 c7 g2 g3 (fun σ m h => h) e hk
      · exact ds_r5 R n i hn hi A L o m t c0 c1 c2 c3 c4 c5 c6 c7 g2 g3 (fun σ m h => h) e _ rfl (by omega)
    · by_cases hk : (R 6).length = 0
      · exact ds_e6 R n i hn hi A L o m t c0 c1 c2 c3 c4 c5 c6 c7 g2 g3 (fun σ m h => h) e hk
      · exact ds_r6 R n i hn hi A L o m t c0 c1 c2 c3 c4 c5 c6 c7 g2 g3 (fun σ m h => h) e _ rfl (by omega)
    · by_cases hk : (R 7).length = 0
      · exact ds_e7 R n i hn hi A L o m t c0 c1 c2 c3 c4 c5 c6 c7 g2 g3 (fun σ m h => h) e hk
      · exact ds_r7 R n i hn hi A L o m t c0 c1 c2 c3 c4 c5 c6 c7 g2 g3 (fun σ m h => h) e _ rfl (by omega)
    · by_cases hk : (R 8).length = 0
      · exact ds_e8 R n i hn hi A L o m t c0 c1 c2 c3 c4 c5 c6 c7 g2 g3 (fun σ m h => h) e hk
      · exact ds_r8 R n i hn hi A L o m t c0 c1 c2 c3 c4 c5 c6 c7 g2 g3 (fun σ m h => h) e _ rfl (by omega)
    · by_cases hk : (R 9).length = 0
      · exact ds_e9 R n i hn hi A L o m t c0 c1 c2 c3 c4 c5 c6 c7 g2 g3 (fun σ m h => h) e hk
      · exact ds_r9 R n i hn hi A L o m t c0 c1 c2 c3 c4 c5 c6 c7 g2 g3 (fun σ m h => h) e _ rfl (by omega)
    · by_cases hk : (R 10).length = 0
      · exact ds_e10 R n i hn hi A L o m t c0 c1 c2 c3 c4 c5 c6 c7 g2 g3 (fun σ m h => h) e hk
      · exact ds_r10 R n i hn hi A L o m t c0 c1 c2 c3 c4 c5 c6 c7 g2 g3 (fun σ m h => h) e _ rfl (by omega)
    · by_cases hk : (R 11).length = 0
      · exact ds_e11 R n i hn hi A L o m t c0 c1 c2 c3 c4 c5 c6 c7 g2 g3 (fun σ m h => h) e hk
      · exact ds_r11 R n i hn hi A L o m t c0 c1 c2 c3 c4 c5 c6 c7 g2 g3 (fun σ m h => h) e _ rfl (by omega)
    · by_cases hk : (R 12).length = 0
      · exact ds_e12 R n i hn hi A L o m t c0 c1 c2 c3 c4 c5 c6 c7 g2 g3 (fun σ m h => h) e hk
      · exact ds_r12 R n i hn hi A L o m t c0 c1 c2 c3 c4 c5 c6 c7 g2 g3 (fun σ m h => h) e _ rfl (by omega)
    · by_cases hk : (R 13).length = 0
      · exact ds_e13 R n i hn hi A L o m t c0 c1 c2 c3 c4 c5 c6 c7 g2 g3 (fun σ m h => h) e hk
      · exact ds_r13 R n i hn hi A L o m t c0 c1 c2 c3 c4 c5 c6 c7 g2 g3 (fun σ m h => h) e _ rfl (by omega)
    · by_cases hk : (R 14).length = 0
      · exact ds_e14 R n i hn hi A L o m t c0 c1 c2 c3 c4 c5 c6 c7 g2 g3 (fun σ m h => h) e hk
      · exact ds_r14 R n i hn hi A L o m t c0 c1 c2 c3 c4 c5 c6 c7 g2 g3 (fun σ m h => h) e _ rfl (by omega)
    · by_cases hk : (R 15).length = 0
      · exact ds_e15 R n i hn hi A L o m t c0 c1 c2 c3 c4 c5 c6 c7 g2 g3 (fun σ m h => h) e hk
      · exact ds_r15 R n i hn hi A L o m t c0 c1 c2 c3 c4 c5 c6 c7 g2 g3 (fun σ m h => h) e _ rfl (by omega)
    · by_cases hk : (R 16).length = 0
      · exact ds_e16 R n i hn hi A L o m t c0 c1 c2 c3 c4 c5 c6 c7 g2 g3 (fun σ m h => h) e hk
      · exact ds_r16 R n i hn hi A L o m t c0 c1 c2 c3 c4 c5 c6 c7 g2 g3 (fun σ m h => h) e _ rfl (by omega)
    · by_cases hk : (R 17).length = 0
      · exact ds_e17 R n i hn hi A L o m t c0 c1 c2 c3 c4 c5 c6 c7 g2 g3 (fun σ m h => h) e hk
      · exact ds_r17 R n i hn hi A L o m t c0 c1 c2 c3 c4 c5 c6 c7 g2 g3 (fun σ m h => h) e _ rfl (by omega)
    · by_cases hk : (R 18).length = 0
      · exact ds_e18 R n i hn hi A L o m t c0 c1 c2 c3 c4 c5 c6 c7 g2 g3 (fun σ m h => h) e hk
      · exact ds_r18 R n i hn hi A L o m t c0 c1 c2 c3 c4 c5 c6 c7 g2 g3 (fun σ m h => h) e _ rfl (by omega)
    · by_cases hk : (R 19).length = 0
      · exact ds_e19 R n i hn hi A L o m t c0 c1 c2 c3 c4 c5 c6 c7 g2 g3 (fun σ m h => h) e hk
      · exact ds_r19 R n i hn hi A L o m t c0 c1 c2 c3 c4 c5 c6 c7 g2 g3 (fun σ m h => h) e _ rfl (by omega)
  · obtain rfl : i = n := by omega
    have HS := ac_sumR A L o m t c0 c1 c2 c3 c4 c5 c6 c7 g3 (by omega)
    have HT := ac_Sum A (by omega)
    generalize dig 0 A.data.toList = D at HS HT
    clear g3
    repeat' first
      | refine st (h := ok_str_eqlT rfl rfl) ?_
      | refine sd (h := ok_str_eqlT rfl rfl) ?_
      | refine st ?_
      | refine st_call (HT) ?_
      | refine sd_call (HT) ?_
      | refine stRW [21, 22] HS ?_ (hargs := by first | exact WkL.refl _ | fail)
      | refine stm ?_
      | refine run_want rfl rfl ?_
      | refine run_unwant rfl rfl ?_
      | refine run_undef rfl rfl ?_
      | refine run_guard1t rfl rfl (by omega) ?_
      | refine run_guard1f rfl rfl (by omega) ?_
      | refine run_guard0t rfl rfl (by omega) ?_
      | refine run_guard0f rfl rfl (by omega) ?_
      | refine run_guard1 rfl rfl (fun h1 => ?_) (fun h1 => ?_)
      | refine run_guard0 rfl rfl (fun h1 => ?_) (fun h1 => ?_)
      | refine run_guard rfl rfl (fun h1 => ?_) (fun h1 => ?_)
      | refine run_nil ?_
      | refine aw_seq ?_
      | refine aw_region (by kernel_rfl) (Nat.le_of_ble_eq_true rfl) ?_
      | refine aw_block ?_
      | refine aw_cond_t rfl ?_
      | refine aw_cond_f rfl ?_
      | refine aw_cond_tp rfl (by omega) ?_
      | refine aw_cond_fp rfl (by omega) ?_
      | refine aw_cond1 rfl (fun h1 => ?_) (fun h1 => ?_)
      | refine aw_cond rfl (fun h1 => ?_) (fun h1 => ?_)
      | refine aw_skip ?_
      | refine aw_exit ?_
      | refine aw_ret ?_
      | refine pp_ret ?_
      | refine pp_normal ?_
    all_goals first | rfl | (exfalso; omega) | (simp [retOf]; done) | exact absurd rfl h1 | (exfalso; simp_all; done)
end Go.Proofs.Ytnicgkhffingmaa
