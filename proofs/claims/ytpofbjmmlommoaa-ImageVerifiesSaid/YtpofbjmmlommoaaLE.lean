/- ImageVerifies: the law. -/
import Derived.Test.YtpofbjmmlommoaaL0
import Derived.Test.YtpofbjmmlommoaaT3
set_option linter.unusedVariables false
set_option linter.unusedSimpArgs false
namespace Go.Proofs.Ytpofbjmmlommoaa
open Go Av
set_option maxRecDepth 20000
set_option maxHeartbeats 16000000 in
theorem law_verifies (v sz pg pk : Int) (L : List ByteArray) (i : Int) (d : ByteArray) : ACalls Try.prog 7 [.agg #[.int .i64 v, .int .i64 sz, .int .i64 pg, .int .i64 pk, .slice (some ⟨0, 0, none⟩) L.length L.length], .int .i64 i, .string d] [some ⟨List.map Value.string L, false, 1⟩] (.bool true) [none] := by
  obtain ⟨n, hn⟩ : ∃ n, L.length = n := ⟨_, rfl⟩
  rw [hn]
  obtain ⟨w, hw⟩ : ∃ w, fewM L = w := ⟨_, rfl⟩
  have HF := ac_fewA v sz pg pk L n hn w hw
  cases w
  · refine acalls_law Try.func7 rfl rfl rfl ?_
    repeat' first
      | refine st (h := ok_not_dec2 rfl) ?_
      | refine sd (h := ok_not_dec2 rfl) ?_
      | refine st ?_
      | refine st_call (ac_awake) ?_
      | refine stRW [0] HF ?_
      | refine sdRW [0] HF ?_
      | refine stm ?_
      | refine run_want rfl rfl ?_
      | refine run_unwant rfl rfl ?_
      | refine run_undef rfl rfl ?_
      | refine run_guard1t rfl rfl (by omega) ?_
      | refine run_guard1f rfl rfl (by omega) ?_
      | refine run_guard0t rfl rfl (by omega) ?_
      | refine run_guard0f rfl rfl (by omega) ?_
      | refine run_guard1 rfl rfl (fun h1 => ?_) (fun h1 => ?_)
      | refine run_guard0 rfl rfl (fun h1 => ?_) (fun h1 => ?_)
      | refine run_guard rfl rfl (fun h1 => ?_) (fun h1 => ?_)
      | refine run_nil ?_
      | refine sd ?_
      | refine sdl ?_
      | refine sdm (n := 1) ?_
      | refine sdm ?_
      | refine sdb ?_
      | refine rund_want rfl rfl ?_
      | refine rund_unwant rfl rfl ?_
      | refine rund_undef rfl rfl ?_
      | refine rund_guard1 rfl rfl (fun h1 => ?_) (fun h1 => ?_)
      | refine rund_guard0 rfl rfl (fun h1 => ?_) (fun h1 => ?_)
      | refine rund_guard rfl rfl (fun h1 => ?_) (fun h1 => ?_)
      | refine rund_nil ?_
      | refine aw_seq ?_
      | refine aw_region (by kernel_rfl) (Nat.le_of_ble_eq_true rfl) ?_
      | refine aw_region_dC (id := 3) [0, 0, 0, 7, 0, 0, 0, 127, 255, 511, 1023, 1023, 4095, 1023, 1023, 32767, 65535, 131071, 262143] 19 (by (repeat constructor)) (by kernel_rfl) (by kernel_rfl) (by kernel_rfl) (by rfl) ?_
      | refine aw_block ?_
      | refine aw_cond_t rfl ?_
      | refine aw_cond_f rfl ?_
      | refine aw_cond_tp rfl (by omega) ?_
      | refine aw_cond_fp rfl (by omega) ?_
      | refine aw_cond1 rfl (fun h1 => ?_) (fun h1 => ?_)
      | refine aw_cond rfl (fun h1 => ?_) (fun h1 => ?_)
      | refine aw_skip ?_
      | refine aw_exit ?_
      | refine aw_ret ?_
      | refine pp_ret ?_
      | refine pp_normal ?_
    all_goals first
      | rfl
      | (exfalso; omega)
      | (simp [retOf]; done)
      | (exfalso; simp_all; done)
  · have hfw := fewM_spec hw
    rw [hn] at hfw
    have hb : n ≤ 9000000000000000000 := by omega
    clear hw
    obtain ⟨c, hc⟩ : ∃ c, chkM v sz pg pk L = c := ⟨_, rfl⟩
    by_cases hd : d.size ≤ 1000
    · obtain ⟨e, he⟩ : ∃ e, pgE c n i = e := ⟨_, rfl⟩
      obtain ⟨y, hy⟩ : ∃ y, vfE v sz pg e i L d = y := ⟨_, rfl⟩
      obtain ⟨z, hz⟩ : ∃ z, inE c v sz pg L d = z := ⟨_, rfl⟩
      have H1 := ac_verify v sz pg pk i L n hn hb d (by omega) c hc e he y hy
      have H2 := ac_rverify v sz pg pk i L n hn hb d (by omega) c hc e he y hy
      have H3 := ac_intact v sz pg pk L n hn hb d (by omega) c hc z hz
      have H4 := ac_rintact v sz pg pk L n hn hb d (by omega) c hc z hz
      clear hc he hy hz
      refine acalls_law Try.func7 rfl rfl rfl ?_
      repeat' first
        | refine st (h := ok_not_dec2 rfl) ?_
        | refine sd (h := ok_not_dec2 rfl) ?_
        | refine st (h := ok_str_eqlT rfl rfl) ?_
        | refine st (h := ok_str_neqF rfl rfl) ?_
        | refine sd (h := ok_str_eqlT rfl rfl) ?_
        | refine sd (h := ok_str_neqF rfl rfl) ?_
        | refine st ?_
        | refine st_call (ac_awake) ?_
        | refine stRW [0] HF ?_
        | refine sdRW [0] HF ?_
        | refine stRW [0] H1 ?_
        | refine stRW [0] H2 ?_
        | refine stRW [0] H3 ?_
        | refine stRW [0] H4 ?_
        | refine sdRW [0] H1 ?_
        | refine sdRW [0] H2 ?_
        | refine sdRW [0] H3 ?_
        | refine sdRW [0] H4 ?_
        | refine stm ?_
        | refine run_want rfl rfl ?_
        | refine run_unwant rfl rfl ?_
        | refine run_undef rfl rfl ?_
        | refine run_guard1t rfl rfl (by omega) ?_
        | refine run_guard1f rfl rfl (by omega) ?_
        | refine run_guard0t rfl rfl (by omega) ?_
        | refine run_guard0f rfl rfl (by omega) ?_
        | refine run_guard1 rfl rfl (fun h1 => ?_) (fun h1 => ?_)
        | refine run_guard0 rfl rfl (fun h1 => ?_) (fun h1 => ?_)
        | refine run_guard rfl rfl (fun h1 => ?_) (fun h1 => ?_)
        | refine run_nil ?_
        | refine sd ?_
        | refine sdl ?_
        | refine sdm (n := 1) ?_
        | refine sdm ?_
        | refine sdb ?_
        | refine rund_want rfl rfl ?_
        | refine rund_unwant rfl rfl ?_
        | refine rund_undef rfl rfl ?_
        | refine rund_guard1 rfl rfl (fun h1 => ?_) (fun h1 => ?_)
        | refine rund_guard0 rfl rfl (fun h1 => ?_) (fun h1 => ?_)
        | refine rund_guard rfl rfl (fun h1 => ?_) (fun h1 => ?_)
        | refine rund_nil ?_
        | refine aw_seq ?_
        | refine aw_region (by kernel_rfl) (Nat.le_of_ble_eq_true rfl) ?_
        | refine aw_region_dC (id := 3) [0, 0, 0, 7, 0, 0, 0, 127, 255, 511, 1023, 1023, 4095, 1023, 1023, 32767, 65535, 131071, 262143] 19 (by (repeat constructor)) (by kernel_rfl) (by kernel_rfl) (by kernel_rfl) (by rfl) ?_
        | refine aw_block ?_
        | refine aw_cond_t rfl ?_
        | refine aw_cond_f rfl ?_
        | refine aw_cond_tp rfl (by omega) ?_
        | refine aw_cond_fp rfl (by omega) ?_
        | refine aw_cond1 rfl (fun h1 => ?_) (fun h1 => ?_)
        | refine aw_cond rfl (fun h1 => ?_) (fun h1 => ?_)
        | refine aw_skip ?_
        | refine aw_exit ?_
        | refine aw_ret ?_
        | refine pp_ret ?_
        | refine pp_normal ?_
      all_goals first
        | rfl
        | (exfalso; omega)
        | (simp [retOf]; done)
        | (exfalso; simp_all; done)
    · refine acalls_law Try.func7 rfl rfl rfl ?_
      repeat' first
        | refine st (h := ok_not_dec2 rfl) ?_
        | refine sd (h := ok_not_dec2 rfl) ?_
        | refine st ?_
        | refine st_call (ac_awake) ?_
        | refine stRW [0] HF ?_
        | refine sdRW [0] HF ?_
        | refine stm ?_
        | refine run_want rfl rfl ?_
        | refine run_unwant rfl rfl ?_
        | refine run_undef rfl rfl ?_
        | refine run_guard1t rfl rfl (by omega) ?_
        | refine run_guard1f rfl rfl (by omega) ?_
        | refine run_guard0t rfl rfl (by omega) ?_
        | refine run_guard0f rfl rfl (by omega) ?_
        | refine run_guard1 rfl rfl (fun h1 => ?_) (fun h1 => ?_)
        | refine run_guard0 rfl rfl (fun h1 => ?_) (fun h1 => ?_)
        | refine run_guard rfl rfl (fun h1 => ?_) (fun h1 => ?_)
        | refine run_nil ?_
        | refine sd ?_
        | refine sdl ?_
        | refine sdm (n := 1) ?_
        | refine sdm ?_
        | refine sdb ?_
        | refine rund_want rfl rfl ?_
        | refine rund_unwant rfl rfl ?_
        | refine rund_undef rfl rfl ?_
        | refine rund_guard1 rfl rfl (fun h1 => ?_) (fun h1 => ?_)
        | refine rund_guard0 rfl rfl (fun h1 => ?_) (fun h1 => ?_)
        | refine rund_guard rfl rfl (fun h1 => ?_) (fun h1 => ?_)
        | refine rund_nil ?_
        | refine aw_seq ?_
        | refine aw_region (by kernel_rfl) (Nat.le_of_ble_eq_true rfl) ?_
        | refine aw_region_dC (id := 3) [0, 0, 0, 7, 0, 0, 0, 127, 255, 511, 1023, 1023, 4095, 1023, 1023, 32767, 65535, 131071, 262143] 19 (by (repeat constructor)) (by kernel_rfl) (by kernel_rfl) (by kernel_rfl) (by rfl) ?_
        | refine aw_block ?_
        | refine aw_cond_t rfl ?_
        | refine aw_cond_f rfl ?_
        | refine aw_cond_tp rfl (by omega) ?_
        | refine aw_cond_fp rfl (by omega) ?_
        | refine aw_cond1 rfl (fun h1 => ?_) (fun h1 => ?_)
        | refine aw_cond rfl (fun h1 => ?_) (fun h1 => ?_)
        | refine aw_skip ?_
        | refine aw_exit ?_
        | refine aw_ret ?_
        | refine pp_ret ?_
        | refine pp_normal ?_
      all_goals first
        | rfl
        | (exfalso; omega)
        | (simp [retOf]; done)
        | (exfalso; simp_all; done)
end Go.Proofs.Ytpofbjmmlommoaa
