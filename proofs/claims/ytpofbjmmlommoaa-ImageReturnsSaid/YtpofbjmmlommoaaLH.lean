/- ImageReturns: the law. -/
import Derived.Test.YtpofbjmmlommoaaL0
import Derived.Test.YtpofbjmmlommoaaK1
set_option linter.unusedVariables false
set_option linter.unusedSimpArgs false
namespace Go.Proofs.Ytpofbjmmlommoaa
open Go Av
set_option maxRecDepth 20000
set_option maxHeartbeats 16000000 in
theorem law_returns (v sz pg pk : Int) (L : List ByteArray) (cut : Int) (hcut : 0 ≤ cut ∧ cut ≤ 65535) : ACalls Try.prog 10 [.agg #[.int .i64 v, .int .i64 sz, .int .i64 pg, .int .i64 pk, .slice (some ⟨0, 0, none⟩) L.length L.length], .int .u16 cut] [some ⟨List.map Value.string L, false, 1⟩] (.bool true) [none] := by
  obtain ⟨n, hn⟩ : ∃ n, L.length = n := ⟨_, rfl⟩
  rw [hn]
  obtain ⟨w, hw⟩ : ∃ w, fewM L = w := ⟨_, rfl⟩
  have HF := ac_fewA v sz pg pk L n hn w hw
  cases w
  · refine acalls_law Try.func10 rfl rfl rfl ?_
    repeat' first
      | refine st (h := ok_not_dec2 rfl) ?_
      | refine st ?_
      | refine st_call (ac_awake) ?_
      | refine stRW [0] HF ?_
      | refine sdRW [0] HF ?_
      | refine stm ?_
      | refine run_want rfl rfl ?_
      | refine run_unwant rfl rfl ?_
      | refine run_undef rfl rfl ?_
      | refine run_guard1t rfl rfl (by omega) ?_
      | refine run_guard1f rfl rfl (by omega) ?_
      | refine run_guard0t rfl rfl (by omega) ?_
      | refine run_guard0f rfl rfl (by omega) ?_
      | refine run_guard1 rfl rfl (fun h1 => ?_) (fun h1 => ?_)
      | refine run_guard0 rfl rfl (fun h1 => ?_) (fun h1 => ?_)
      | refine run_guard rfl rfl (fun h1 => ?_) (fun h1 => ?_)
      | refine run_nil ?_
      | refine aw_seq ?_
      | refine aw_region (by kernel_rfl) (Nat.le_of_ble_eq_true rfl) ?_
      | refine aw_block ?_
      | refine aw_cond_t rfl ?_
      | refine aw_cond_f rfl ?_
      | refine aw_cond_tp rfl (by omega) ?_
      | refine aw_cond_fp rfl (by omega) ?_
      | refine aw_cond1 rfl (fun h1 => ?_) (fun h1 => ?_)
      | refine aw_cond rfl (fun h1 => ?_) (fun h1 => ?_)
      | refine aw_skip ?_
      | refine aw_exit ?_
      | refine aw_ret ?_
      | refine pp_ret ?_
      | refine pp_normal ?_
    all_goals first
      | rfl
      | (exfalso; omega)
      | (simp [retOf]; done)
      | (exfalso; simp_all; done)
  · have hfw := fewM_spec hw
    rw [hn] at hfw
    have hb : n ≤ 9000000000000000000 := by omega
    clear hw
    rcases chk_01 v sz pg pk L with hc | hc
    · obtain ⟨S, hS⟩ : ∃ S, encS v sz pg pk L = S := ⟨_, rfl⟩
      obtain ⟨q1, q2, q3, q4, q5⟩ := chk_ok hc
      have hbd := siz_bd q1
      have hsz : S.size = 9 + 32 * n := by rw [← hS, encS_size q5, hn]
      obtain ⟨d1, d2, d3⟩ := de_enc hc S hS
      rw [hn] at d2 d3
      obtain ⟨p1, p2, p3, p4⟩ := enc_parts (L := L) (by omega) (by omega) (by omega) (by omega) S hS
      have hl : cut % (S.size : Int) < S.size := Int.emod_lt_of_pos _ (by omega)
      have hl0 : 0 ≤ cut % (S.size : Int) := Int.emod_nonneg _ (by omega)
      have d4 := de_cut hc S hS (cut % (S.size : Int)).toNat (by omega)
      have hne : decide (S = ⟨#[]⟩) = false := decide_eq_false (fun h => by have h0 := congrArg ByteArray.size h; have h1 : (⟨#[]⟩ : ByteArray).size = 0 := rfl; omega)
      have H1 := ac_Encode v sz pg pk L n hn hb 0 hc S (by rw [hS]; exact if_neg (by decide))
      have H2 := ac_decode S (by omega) 0 d1 n d2 v sz pg pk p1 p2 p3 p4
      rw [if_neg (by decide), if_neg (by decide), d3] at H2
      obtain ⟨U, hU⟩ : ∃ U, S.extract 0 (cut % (S.size : Int)).toNat = U := ⟨_, rfl⟩
      rw [hU] at d4
      have hUs : U.size ≤ 1000000 := by rw [← hU, ByteArray.size_extract]; omega
      have H3 := ac_decode U hUs 10 d4 _ rfl _ _ _ _ rfl rfl rfl rfl
      rw [if_pos (by decide), if_pos (by decide)] at H3
      have H4 := ac_ID v sz pg pk L n hn hb 0 hc (dig 0 (idB S).data.toList) (by rw [hS]; exact if_neg (by decide))
      have hds := dig_size 0 (idB S).data.toList
      generalize dig 0 (idB S).data.toList = D at H4 hds
      have H5 := ac_same v sz pg pk v sz pg pk L L n n hn hn hb hb true (decide_eq_true ⟨rfl, rfl, rfl, rfl, rfl⟩)
      clear hc hS q2 q3 q4 q5 hbd d1 d2 d3 d4 p1 p2 p3 p4 hUs
      refine acalls_law Try.func10 rfl rfl rfl ?_
      repeat' first
        | refine st (h := ok_not_dec2 rfl) ?_
        | refine st (v := .bool false) (h := by (rw [← hne]; exact ok_str_eql rfl rfl)) ?_
        | refine sd (v := .bool false) (h := by (rw [← hne]; exact ok_str_eql rfl rfl)) ?_
        | refine sd (v := .string U) (h := by (rw [← hU]; exact ok_slice_str rfl BndR.none (BndR.some rfl (by omega)) (by omega))) ?_
        | refine st (v := .string U) (h := by (rw [← hU]; exact ok_slice_str rfl BndR.none (BndR.some rfl (by omega)) (by omega))) ?_
        | refine st ?_
        | refine st_call (ac_awake) ?_
        | refine stRW [0] HF ?_
        | refine sdRW [0] HF ?_
        | refine stRW [0] H1 ?_
        | refine stRW [0] H4 ?_
        | refine sdRW [0] H1 ?_
        | refine sdRW [0] H4 ?_
        | refine stMW [] H2 ?_
        | refine stMW [] H3 ?_
        | refine stRW [2, 0] H5 ?_
        | refine sdRW [2, 0] H5 ?_
        | refine stm ?_
        | refine run_want rfl rfl ?_
        | refine run_unwant rfl rfl ?_
        | refine run_undef rfl rfl ?_
        | refine run_guard1t rfl rfl (by omega) ?_
        | refine run_guard1f rfl rfl (by omega) ?_
        | refine run_guard0t rfl rfl (by omega) ?_
        | refine run_guard0f rfl rfl (by omega) ?_
        | refine run_guard1 rfl rfl (fun h1 => ?_) (fun h1 => ?_)
        | refine run_guard0 rfl rfl (fun h1 => ?_) (fun h1 => ?_)
        | refine run_guard rfl rfl (fun h1 => ?_) (fun h1 => ?_)
        | refine run_nil ?_
        | refine aw_seq ?_
        | refine aw_region (by kernel_rfl) (Nat.le_of_ble_eq_true rfl) ?_
        | refine aw_block ?_
        | refine aw_cond_t rfl ?_
        | refine aw_cond_f rfl ?_
        | refine aw_cond_tp rfl (by omega) ?_
        | refine aw_cond_fp rfl (by omega) ?_
        | refine aw_cond1 rfl (fun h1 => ?_) (fun h1 => ?_)
        | refine aw_cond rfl (fun h1 => ?_) (fun h1 => ?_)
        | refine aw_skip ?_
        | refine aw_exit ?_
        | refine aw_ret ?_
        | refine pp_ret ?_
        | refine pp_normal ?_
      all_goals try (simp [retOf, hds]; done)
      all_goals first
        | rfl
        | (exfalso; omega)
        | (simp [retOf]; done)
        | (exfalso; simp_all; done)
    · have H1 := ac_Encode v sz pg pk L n hn hb 1 hc ⟨#[]⟩ (if_pos (by decide))
      have H2 := ac_mcheck v sz pg pk L n hn hb 1 hc
      clear hc
      refine acalls_law Try.func10 rfl rfl rfl ?_
      repeat' first
        | refine st (h := ok_not_dec2 rfl) ?_
        | refine st (h := ok_str_eqlT rfl rfl) ?_
        | refine st (h := ok_str_neqF rfl rfl) ?_
        | refine sd (h := ok_str_eqlT rfl rfl) ?_
        | refine sd (h := ok_str_neqF rfl rfl) ?_
        | refine st ?_
        | refine st_call (ac_awake) ?_
        | refine stRW [0] HF ?_
        | refine sdRW [0] HF ?_
        | refine stRW [0] H1 ?_
        | refine stRW [0] H2 ?_
        | refine sdRW [0] H1 ?_
        | refine sdRW [0] H2 ?_
        | refine stm ?_
        | refine run_want rfl rfl ?_
        | refine run_unwant rfl rfl ?_
        | refine run_undef rfl rfl ?_
        | refine run_guard1t rfl rfl (by omega) ?_
        | refine run_guard1f rfl rfl (by omega) ?_
        | refine run_guard0t rfl rfl (by omega) ?_
        | refine run_guard0f rfl rfl (by omega) ?_
        | refine run_guard1 rfl rfl (fun h1 => ?_) (fun h1 => ?_)
        | refine run_guard0 rfl rfl (fun h1 => ?_) (fun h1 => ?_)
        | refine run_guard rfl rfl (fun h1 => ?_) (fun h1 => ?_)
        | refine run_nil ?_
        | refine aw_seq ?_
        | refine aw_region (by kernel_rfl) (Nat.le_of_ble_eq_true rfl) ?_
        | refine aw_block ?_
        | refine aw_cond_t rfl ?_
        | refine aw_cond_f rfl ?_
        | refine aw_cond_tp rfl (by omega) ?_
        | refine aw_cond_fp rfl (by omega) ?_
        | refine aw_cond1 rfl (fun h1 => ?_) (fun h1 => ?_)
        | refine aw_cond rfl (fun h1 => ?_) (fun h1 => ?_)
        | refine aw_skip ?_
        | refine aw_exit ?_
        | refine aw_ret ?_
        | refine pp_ret ?_
        | refine pp_normal ?_
      all_goals first
        | rfl
        | (exfalso; omega)
        | (simp [retOf]; done)
        | (exfalso; simp_all; done)
end Go.Proofs.Ytpofbjmmlommoaa
