/- BeaconFrames: the law. -/
import Derived.Test.YtfabgdignlfihaaLB
import Derived.Test.YtfabgdignlfihaaN1
import Derived.Test.YtfabgdignlfihaaM5
set_option linter.unusedVariables false
set_option linter.unusedSimpArgs false
namespace Go.Proofs.Ytfabgdignlfihaa
open Go Av
set_option maxRecDepth 20000
theorem readO_len {i : Bool} {d : ByteArray} {m : OfT} {x : Int} (h : readO i d = (m, x)) : m.2.2.2.2.2.2.length ≤ 16 := by
  unfold readO at h
  cases i
  · rw [if_neg (by simp)] at h
    obtain ⟨rfl, _⟩ := Prod.mk.inj h
    decide
  · rw [if_pos rfl] at h
    exact decO_len h
set_option maxHeartbeats 16000000 in
theorem law_frames (nd epo pa he rnk le : Int) (lst seq slt : Int) (root : Int) (op : Bool) (run : ByteArray) (v f u : Int) (C : List Int) (kd sr tg li sq fl nu er sx rk ep : Int) (dt : ByteArray) (kd' sr' tg' li' sq' fl' nu' er' sx' rk' ep' : Int) (dt' : ByteArray) : ACalls Try.prog 10 [.agg #[.int .i64 nd, .int .i64 epo, .int .i64 pa, .int .i64 he, .int .i64 rnk, .int .i64 le], .int .i64 lst, .int .i64 seq, .int .i64 slt, .agg #[.int .i64 root, .bool op, .string run, .int .i64 v, .int .i64 f, .int .i64 u, .slice (some ⟨0, 0, none⟩) C.length C.length], .agg #[.int .i64 kd, .int .i64 sr, .int .i64 tg, .int .i64 li, .int .i64 sq, .int .i64 fl, .int .i64 nu, .int .i64 er, .int .i64 sx, .int .i64 rk, .int .i64 ep, .string dt], .agg #[.int .i64 kd', .int .i64 sr', .int .i64 tg', .int .i64 li', .int .i64 sq', .int .i64 fl', .int .i64 nu', .int .i64 er', .int .i64 sx', .int .i64 rk', .int .i64 ep', .string dt']] [some ⟨List.map (Value.int .i64) C, false, 1⟩] (.bool true) [none] := by
  obtain ⟨n, hn⟩ : ∃ n, C.length = n := ⟨_, rfl⟩
  rw [hn]
  have HF := ac_few root op run v f u n
  by_cases hf : run.size ≤ 100 ∧ n ≤ 40
  · rw [decide_eq_true hf] at HF
    by_cases hs : dt.size ≤ 200 ∧ dt'.size ≤ 200
    · obtain ⟨x, hx⟩ : ∃ x, chkO root run v f u C = x := ⟨_, rfl⟩
      obtain ⟨m, y, hm⟩ : ∃ m y, mkF nd epo rnk lst seq slt x (pkB (ofB root op run v f u C)) = (m, y) := ⟨_, _, rfl⟩
      have H1 := ac_make nd epo pa he rnk le lst seq slt root op run v f u C n hn (by omega) x hx m y hm
      have H2 := ac_rmake nd epo pa he rnk le lst seq slt root op run v f u C n hn (by omega) x hx m y hm
      obtain ⟨i, hi⟩ : ∃ i, isC kd sr tg li sq fl nu er sx rk ep = i := ⟨_, rfl⟩
      obtain ⟨j, hj⟩ : ∃ i, isC kd' sr' tg' li' sq' fl' nu' er' sx' rk' ep' = i := ⟨_, rfl⟩
      obtain ⟨m2, z, hres⟩ : ∃ m z, readO i dt = (m, z) := ⟨_, _, rfl⟩
      obtain ⟨n2, hn2⟩ : ∃ n2, m2.2.2.2.2.2.2.length = n2 := ⟨_, rfl⟩
      have H3 := ac_read kd sr tg li sq fl nu er sx rk ep dt (by omega) i hi m2 z n2 hres hn2
      have H4 := ac_rread kd sr tg li sq fl nu er sx rk ep dt (by omega) i hi m2 z n2 hres hn2
      have hlen := readO_len hres
      rw [hn2] at hlen
      obtain ⟨bt, hbt⟩ : ∃ bt, betC i j ep rk sr ep' rk' sr' = bt := ⟨_, rfl⟩
      have H5 := ac_better kd sr tg li sq fl nu er sx rk ep dt kd' sr' tg' li' sq' fl' nu' er' sx' rk' ep' dt' i j bt hi hj hbt
      have H6 := ac_rbetter kd sr tg li sq fl nu er sx rk ep dt kd' sr' tg' li' sq' fl' nu' er' sx' rk' ep' dt' i j bt hi hj hbt
      clear hres hx hm hi hj hbt
      obtain ⟨root2, op2, run2, v2, f2, u2, C2⟩ := m2
      dsimp only at hn2 H3 H4
      have H7 := ac_same root2 op2 run2 v2 f2 u2 root2 op2 run2 v2 f2 u2 C2 C2 n2 n2 hn2 hn2 (by omega) (by omega) true (decide_eq_true ⟨rfl, rfl, rfl, rfl, rfl, rfl, rfl⟩)
      obtain ⟨p1, p2, p3, p4, p5, p6, p7, p8, p9, p10, p11, p12⟩ := m
      dsimp only [frV] at H1 H2
      refine acalls_law Try.func10 rfl rfl rfl ?_
      repeat' first
        | refine st (h := ok_not_dec2 rfl) ?_
        | refine sd (h := ok_not_dec2 rfl) ?_
        | refine st (h := ok_agg_eqlT rfl rfl (by ((repeat constructor); first | done | fail)) (by simp)) ?_
        | refine sd (h := ok_agg_eqlT rfl rfl (by ((repeat constructor); first | done | fail)) (by simp)) ?_
        | refine st ?_
        | refine st_call (ac_awake) ?_
        | refine stRW [0] HF ?_
        | refine stRW [0] H1 ?_
        | refine stRW [0] H2 ?_
        | refine sdRW [0] HF ?_
        | refine sdRW [0] H1 ?_
        | refine sdRW [0] H2 ?_
        | refine stMW [] H3 ?_
        | refine stMW [] H4 ?_
        | refine stRW [7, 9] H7 ?_
        | refine stRW [6, 8] H7 ?_
        | refine stRW [8, 10] H7 ?_
        | refine sdRW [7, 9] H7 ?_
        | refine sdRW [6, 8] H7 ?_
        | refine sdRW [8, 10] H7 ?_
        | refine st_call (H5) ?_
        | refine st_call (H6) ?_
        | refine sd_call (H5) ?_
        | refine sd_call (H6) ?_
        | refine stm ?_
        | refine run_want rfl rfl ?_
        | refine run_unwant rfl rfl ?_
        | refine run_undef rfl rfl ?_
        | refine run_guard1t rfl rfl (by omega) ?_
        | refine run_guard1f rfl rfl (by omega) ?_
        | refine run_guard0t rfl rfl (by omega) ?_
        | refine run_guard0f rfl rfl (by omega) ?_
        | refine run_guard1 rfl rfl (fun h1 => ?_) (fun h1 => ?_)
        | refine run_guard0 rfl rfl (fun h1 => ?_) (fun h1 => ?_)
        | refine run_guard rfl rfl (fun h1 => ?_) (fun h1 => ?_)
        | refine run_nil ?_
        | refine sd ?_
        | refine sdl ?_
        | refine sdm (n := 1) ?_
        | refine sdm ?_
        | refine sdb ?_
        | refine rund_want rfl rfl ?_
        | refine rund_unwant rfl rfl ?_
        | refine rund_undef rfl rfl ?_
        | refine rund_guard1 rfl rfl (fun h1 => ?_) (fun h1 => ?_)
        | refine rund_guard0 rfl rfl (fun h1 => ?_) (fun h1 => ?_)
        | refine rund_guard rfl rfl (fun h1 => ?_) (fun h1 => ?_)
        | refine rund_nil ?_
        | refine aw_seq ?_
        | refine aw_region (by kernel_rfl) (Nat.le_of_ble_eq_true rfl) ?_
        | refine aw_region_dC (id := 9) [0, 0, 3, 7, 15, 15, 63, 127, 255, 511, 511, 2047, 4095, 8191, 16383, 16383, 65535, 131071, 262143, 524287, 524287, 2097151, 524287, 524287, 16777215, 33554431, 67108863, 134217727] 28 (by (repeat constructor)) (by kernel_rfl) (by kernel_rfl) (by kernel_rfl) (by rfl) ?_
        | refine aw_block ?_
        | refine aw_cond_t rfl ?_
        | refine aw_cond_f rfl ?_
        | refine aw_cond_tp rfl (by omega) ?_
        | refine aw_cond_fp rfl (by omega) ?_
        | refine aw_cond1 rfl (fun h1 => ?_) (fun h1 => ?_)
        | refine aw_cond rfl (fun h1 => ?_) (fun h1 => ?_)
        | refine aw_skip ?_
        | refine aw_exit ?_
        | refine aw_ret ?_
        | refine pp_ret ?_
        | refine pp_normal ?_
      all_goals first
        | rfl
        | (exfalso; omega)
        | (simp [retOf]; done)
        | (exfalso; simp_all; done)
    · refine acalls_law Try.func10 rfl rfl rfl ?_
      repeat' first
        | refine st (h := ok_not_dec2 rfl) ?_
        | refine sd (h := ok_not_dec2 rfl) ?_
        | refine st ?_
        | refine st_call (ac_awake) ?_
        | refine stRW [0] HF ?_
        | refine sdRW [0] HF ?_
        | refine stm ?_
        | refine run_want rfl rfl ?_
        | refine run_unwant rfl rfl ?_
        | refine run_undef rfl rfl ?_
        | refine run_guard1t rfl rfl (by omega) ?_
        | refine run_guard1f rfl rfl (by omega) ?_
        | refine run_guard0t rfl rfl (by omega) ?_
        | refine run_guard0f rfl rfl (by omega) ?_
        | refine run_guard1 rfl rfl (fun h1 => ?_) (fun h1 => ?_)
        | refine run_guard0 rfl rfl (fun h1 => ?_) (fun h1 => ?_)
        | refine run_guard rfl rfl (fun h1 => ?_) (fun h1 => ?_)
        | refine run_nil ?_
        | refine sd ?_
        | refine sdl ?_
        | refine sdm (n := 1) ?_
        | refine sdm ?_
        | refine sdb ?_
        | refine rund_want rfl rfl ?_
        | refine rund_unwant rfl rfl ?_
        | refine rund_undef rfl rfl ?_
        | refine rund_guard1 rfl rfl (fun h1 => ?_) (fun h1 => ?_)
        | refine rund_guard0 rfl rfl (fun h1 => ?_) (fun h1 => ?_)
        | refine rund_guard rfl rfl (fun h1 => ?_) (fun h1 => ?_)
        | refine rund_nil ?_
        | refine aw_seq ?_
        | refine aw_region (by kernel_rfl) (Nat.le_of_ble_eq_true rfl) ?_
        | refine aw_region_dC (id := 9) [0, 0, 3, 7, 15, 15, 63, 127, 255, 511, 511, 2047, 4095, 8191, 16383, 16383, 65535, 131071, 262143, 524287, 524287, 2097151, 524287, 524287, 16777215, 33554431, 67108863, 134217727] 28 (by (repeat constructor)) (by kernel_rfl) (by kernel_rfl) (by kernel_rfl) (by rfl) ?_
        | refine aw_block ?_
        | refine aw_cond_t rfl ?_
        | refine aw_cond_f rfl ?_
        | refine aw_cond_tp rfl (by omega) ?_
        | refine aw_cond_fp rfl (by omega) ?_
        | refine aw_cond1 rfl (fun h1 => ?_) (fun h1 => ?_)
        | refine aw_cond rfl (fun h1 => ?_) (fun h1 => ?_)
        | refine aw_skip ?_
        | refine aw_exit ?_
        | refine aw_ret ?_
        | refine pp_ret ?_
        | refine pp_normal ?_
      all_goals first
        | rfl
        | (exfalso; omega)
        | (simp [retOf]; done)
        | (exfalso; simp_all; done)
  · rw [decide_eq_false hf] at HF
    refine acalls_law Try.func10 rfl rfl rfl ?_
    repeat' first
      | refine st (h := ok_not_dec2 rfl) ?_
      | refine sd (h := ok_not_dec2 rfl) ?_
      | refine st ?_
      | refine st_call (ac_awake) ?_
      | refine stRW [0] HF ?_
      | refine sdRW [0] HF ?_
      | refine stm ?_
      | refine run_want rfl rfl ?_
      | refine run_unwant rfl rfl ?_
      | refine run_undef rfl rfl ?_
      | refine run_guard1t rfl rfl (by omega) ?_
      | refine run_guard1f rfl rfl (by omega) ?_
      | refine run_guard0t rfl rfl (by omega) ?_
      | refine run_guard0f rfl rfl (by omega) ?_
      | refine run_guard1 rfl rfl (fun h1 => ?_) (fun h1 => ?_)
      | refine run_guard0 rfl rfl (fun h1 => ?_) (fun h1 => ?_)
      | refine run_guard rfl rfl (fun h1 => ?_) (fun h1 => ?_)
      | refine run_nil ?_
      | refine sd ?_
      | refine sdl ?_
      | refine sdm (n := 1) ?_
      | refine sdm ?_
      | refine sdb ?_
      | refine rund_want rfl rfl ?_
      | refine rund_unwant rfl rfl ?_
      | refine rund_undef rfl rfl ?_
      | refine rund_guard1 rfl rfl (fun h1 => ?_) (fun h1 => ?_)
      | refine rund_guard0 rfl rfl (fun h1 => ?_) (fun h1 => ?_)
      | refine rund_guard rfl rfl (fun h1 => ?_) (fun h1 => ?_)
      | refine rund_nil ?_
      | refine aw_seq ?_
      | refine aw_region (by kernel_rfl) (Nat.le_of_ble_eq_true rfl) ?_
      | refine aw_region_dC (id := 9) [0, 0, 3, 7, 15, 15, 63, 127, 255, 511, 511, 2047, 4095, 8191, 16383, 16383, 65535, 131071, 262143, 524287, 524287, 2097151, 524287, 524287, 16777215, 33554431, 67108863, 134217727] 28 (by (repeat constructor)) (by kernel_rfl) (by kernel_rfl) (by kernel_rfl) (by rfl) ?_
      | refine aw_block ?_
      | refine aw_cond_t rfl ?_
      | refine aw_cond_f rfl ?_
      | refine aw_cond_tp rfl (by omega) ?_
      | refine aw_cond_fp rfl (by omega) ?_
      | refine aw_cond1 rfl (fun h1 => ?_) (fun h1 => ?_)
      | refine aw_cond rfl (fun h1 => ?_) (fun h1 => ?_)
      | refine aw_skip ?_
      | refine aw_exit ?_
      | refine aw_ret ?_
      | refine pp_ret ?_
      | refine pp_normal ?_
    all_goals first
      | rfl
      | (exfalso; omega)
      | (simp [retOf]; done)
      | (exfalso; simp_all; done)
end Go.Proofs.Ytfabgdignlfihaa
