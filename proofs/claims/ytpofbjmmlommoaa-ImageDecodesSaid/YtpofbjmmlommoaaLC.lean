/- ImageDecodes: the law. -/
import Derived.Test.YtpofbjmmlommoaaL0
import Derived.Test.YtpofbjmmlommoaaT5
import Derived.Test.YtpofbjmmlommoaaK1
set_option linter.unusedVariables false
set_option linter.unusedSimpArgs false
namespace Go.Proofs.Ytpofbjmmlommoaa
open Go Av
set_option maxRecDepth 20000
set_option maxHeartbeats 16000000 in
theorem law_decodes (d : ByteArray) : ACalls Try.prog 9 [.string d] [] (.bool true) [] := by
  by_cases hd : d.size ≤ 2200
  · obtain ⟨N, hN⟩ : ∃ N, deN d = N := ⟨_, rfl⟩
    obtain ⟨v, hv⟩ : ∃ v, valS (d.extract 0 2) = v := ⟨_, rfl⟩
    obtain ⟨sz, hsz⟩ : ∃ v, valS (d.extract 2 6) = v := ⟨_, rfl⟩
    obtain ⟨pg, hpg⟩ : ∃ v, valS (d.extract 6 8) = v := ⟨_, rfl⟩
    obtain ⟨pk, hpk⟩ : ∃ v, valS (d.extract 8 9) = v := ⟨_, rfl⟩
    have hNb : N ≤ 1000 := by rw [← hN, deN]; omega
    rcases de_cases d with h0 | h0
    · have H1 := ac_decode d (by omega) 0 h0 N hN v sz pg pk hv hsz hpg hpk
      have H2 := ac_rdecode d (by omega) 0 h0 N hN v sz pg pk hv hsz hpg hpk
      rw [if_neg (by decide), if_neg (by decide)] at H1 H2
      obtain ⟨hc, hE⟩ := enc_de h0
      rw [hv, hsz, hpg, hpk, hN] at hc hE
      have hlen := clL_len d N
      have H3 := ac_same v sz pg pk v sz pg pk (clL d N) (clL d N) N N hlen hlen (by omega) (by omega) true (decide_eq_true ⟨rfl, rfl, rfl, rfl, rfl⟩)
      have H4 := ac_Encode v sz pg pk (clL d N) N hlen (by omega) 0 hc d (by rw [hE]; exact if_neg (by decide))
      generalize clL d N = L at H1 H2 H3 H4
      clear hN hv hsz hpg hpk h0 hc hE hlen
      refine acalls_law Try.func9 rfl rfl rfl ?_
      repeat' first
        | refine st (h := ok_not_dec2 rfl) ?_
        | refine st (h := ok_str_eqlT rfl rfl) ?_
        | refine st (h := ok_str_neqF rfl rfl) ?_
        | refine sd (h := ok_str_eqlT rfl rfl) ?_
        | refine sd (h := ok_str_neqF rfl rfl) ?_
        | refine st ?_
        | refine st_call (ac_awake) ?_
        | refine stMW [] H1 ?_
        | refine stMW [] H2 ?_
        | refine stRW [0, 2] H3 ?_
        | refine sdRW [0, 2] H3 ?_
        | refine stRW [0] H4 ?_
        | refine sdRW [0] H4 ?_
        | refine stm ?_
        | refine run_want rfl rfl ?_
        | refine run_unwant rfl rfl ?_
        | refine run_undef rfl rfl ?_
        | refine run_guard1t rfl rfl (by omega) ?_
        | refine run_guard1f rfl rfl (by omega) ?_
        | refine run_guard0t rfl rfl (by omega) ?_
        | refine run_guard0f rfl rfl (by omega) ?_
        | refine run_guard1 rfl rfl (fun h1 => ?_) (fun h1 => ?_)
        | refine run_guard0 rfl rfl (fun h1 => ?_) (fun h1 => ?_)
        | refine run_guard rfl rfl (fun h1 => ?_) (fun h1 => ?_)
        | refine run_nil ?_
        | refine aw_seq ?_
        | refine aw_region (by kernel_rfl) (Nat.le_of_ble_eq_true rfl) ?_
        | refine aw_block ?_
        | refine aw_cond_t rfl ?_
        | refine aw_cond_f rfl ?_
        | refine aw_cond_tp rfl (by omega) ?_
        | refine aw_cond_fp rfl (by omega) ?_
        | refine aw_cond1 rfl (fun h1 => ?_) (fun h1 => ?_)
        | refine aw_cond rfl (fun h1 => ?_) (fun h1 => ?_)
        | refine aw_skip ?_
        | refine aw_exit ?_
        | refine aw_ret ?_
        | refine pp_ret ?_
        | refine pp_normal ?_
      all_goals first
        | rfl
        | (exfalso; omega)
        | (simp [retOf]; done)
        | (exfalso; simp_all; done)
    · have H1 := ac_decode d (by omega) 10 h0 N hN v sz pg pk hv hsz hpg hpk
      have H2 := ac_rdecode d (by omega) 10 h0 N hN v sz pg pk hv hsz hpg hpk
      rw [if_pos (by decide), if_pos (by decide)] at H1 H2
      have H3 := ac_same 0 0 0 0 0 0 0 0 [] [] 0 0 rfl rfl (by decide) (by decide) true (decide_eq_true ⟨rfl, rfl, rfl, rfl, rfl⟩)
      have H4 := ac_Encode 0 0 0 0 [] 0 rfl (by decide) 1 (by decide +kernel) ⟨#[]⟩ (if_pos (by decide))
      clear hN hv hsz hpg hpk h0
      refine acalls_law Try.func9 rfl rfl rfl ?_
      repeat' first
        | refine st (h := ok_not_dec2 rfl) ?_
        | refine st (h := ok_str_eqlT rfl rfl) ?_
        | refine st (h := ok_str_neqF rfl rfl) ?_
        | refine sd (h := ok_str_eqlT rfl rfl) ?_
        | refine sd (h := ok_str_neqF rfl rfl) ?_
        | refine st ?_
        | refine st_call (ac_awake) ?_
        | refine stMW [] H1 ?_
        | refine stMW [] H2 ?_
        | refine stRW [0, 2] H3 ?_
        | refine sdRW [0, 2] H3 ?_
        | refine stRW [0] H4 ?_
        | refine sdRW [0] H4 ?_
        | refine stm ?_
        | refine run_want rfl rfl ?_
        | refine run_unwant rfl rfl ?_
        | refine run_undef rfl rfl ?_
        | refine run_guard1t rfl rfl (by omega) ?_
        | refine run_guard1f rfl rfl (by omega) ?_
        | refine run_guard0t rfl rfl (by omega) ?_
        | refine run_guard0f rfl rfl (by omega) ?_
        | refine run_guard1 rfl rfl (fun h1 => ?_) (fun h1 => ?_)
        | refine run_guard0 rfl rfl (fun h1 => ?_) (fun h1 => ?_)
        | refine run_guard rfl rfl (fun h1 => ?_) (fun h1 => ?_)
        | refine run_nil ?_
        | refine aw_seq ?_
        | refine aw_region (by kernel_rfl) (Nat.le_of_ble_eq_true rfl) ?_
        | refine aw_block ?_
        | refine aw_cond_t rfl ?_
        | refine aw_cond_f rfl ?_
        | refine aw_cond_tp rfl (by omega) ?_
        | refine aw_cond_fp rfl (by omega) ?_
        | refine aw_cond1 rfl (fun h1 => ?_) (fun h1 => ?_)
        | refine aw_cond rfl (fun h1 => ?_) (fun h1 => ?_)
        | refine aw_skip ?_
        | refine aw_exit ?_
        | refine aw_ret ?_
        | refine pp_ret ?_
        | refine pp_normal ?_
      all_goals first
        | rfl
        | (exfalso; omega)
        | (simp [retOf]; done)
        | (exfalso; simp_all; done)
  · refine acalls_law Try.func9 rfl rfl rfl ?_
    repeat' first
      | refine st (h := ok_not_dec2 rfl) ?_
      | refine st ?_
      | refine st_call (ac_awake) ?_
      | refine stm ?_
      | refine run_want rfl rfl ?_
      | refine run_unwant rfl rfl ?_
      | refine run_undef rfl rfl ?_
      | refine run_guard1t rfl rfl (by omega) ?_
      | refine run_guard1f rfl rfl (by omega) ?_
      | refine run_guard0t rfl rfl (by omega) ?_
      | refine run_guard0f rfl rfl (by omega) ?_
      | refine run_guard1 rfl rfl (fun h1 => ?_) (fun h1 => ?_)
      | refine run_guard0 rfl rfl (fun h1 => ?_) (fun h1 => ?_)
      | refine run_guard rfl rfl (fun h1 => ?_) (fun h1 => ?_)
      | refine run_nil ?_
      | refine aw_seq ?_
      | refine aw_region (by kernel_rfl) (Nat.le_of_ble_eq_true rfl) ?_
      | refine aw_block ?_
      | refine aw_cond_t rfl ?_
      | refine aw_cond_f rfl ?_
      | refine aw_cond_tp rfl (by omega) ?_
      | refine aw_cond_fp rfl (by omega) ?_
      | refine aw_cond1 rfl (fun h1 => ?_) (fun h1 => ?_)
      | refine aw_cond rfl (fun h1 => ?_) (fun h1 => ?_)
      | refine aw_skip ?_
      | refine aw_exit ?_
      | refine aw_ret ?_
      | refine pp_ret ?_
      | refine pp_normal ?_
    all_goals first
      | rfl
      | (exfalso; omega)
      | (simp [retOf]; done)
      | (exfalso; simp_all; done)
end Go.Proofs.Ytpofbjmmlommoaa
