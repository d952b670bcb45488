/- BeaconOrder: the law. -/
import Derived.Test.YtfabgdignlfihaaLB
import Derived.Test.YtfabgdignlfihaaM5
set_option linter.unusedVariables false
set_option linter.unusedSimpArgs false
namespace Go.Proofs.Ytfabgdignlfihaa
open Go Av
set_option maxRecDepth 20000
theorem bet_irr (i : Bool) (ep rk sr : Int) : betC i i ep rk sr ep rk sr = false := by
  unfold betC
  rw [decide_eq_false (by omega)]
  simp
theorem bet_asym {i j : Bool} {ep rk sr ep' rk' sr' : Int} (h1 : betC i j ep rk sr ep' rk' sr' = true) : betC j i ep' rk' sr' ep rk sr = false := by
  unfold betC at *
  simp only [Bool.and_eq_true, decide_eq_true_eq] at h1
  rw [decide_eq_false (by omega)]
  simp
theorem bet_trans {i j k : Bool} {ep rk sr ep' rk' sr' ep2 rk2 sr2 : Int} (h1 : betC i j ep rk sr ep' rk' sr' = true) (h2 : betC j k ep' rk' sr' ep2 rk2 sr2 = true) : betC i k ep rk sr ep2 rk2 sr2 = true := by
  unfold betC at *
  simp only [Bool.and_eq_true, decide_eq_true_eq] at *
  exact ⟨h1.1, h2.2.1, by omega⟩
theorem bet_total {ep rk sr ep' rk' sr' : Int} (h : sr ≠ sr') : betC true true ep rk sr ep' rk' sr' = !betC true true ep' rk' sr' ep rk sr := by
  unfold betC
  simp only [Bool.true_and]
  rw [← decide_not]
  exact decide_eq_decide.2 (by omega)
theorem bet_bad {i j : Bool} {ep rk sr ep' rk' sr' : Int} (h : i = false ∨ j = false) : betC i j ep rk sr ep' rk' sr' = false := by
  rcases h with rfl | rfl
  · rfl
  · cases i <;> rfl
set_option maxHeartbeats 4000000 in
theorem ac_valid (kd sr tg li sq fl nu er sx rk ep : Int) (dt : ByteArray) (hd : dt.size ≤ 1000) (i : Bool) (hi : isC kd sr tg li sq fl nu er sx rk ep = i) : ACalls Try.prog 29 [.agg #[.int .i64 kd, .int .i64 sr, .int .i64 tg, .int .i64 li, .int .i64 sq, .int .i64 fl, .int .i64 nu, .int .i64 er, .int .i64 sx, .int .i64 rk, .int .i64 ep, .string dt]] [] (.bool i) [] := by
  obtain ⟨m2, z, hres⟩ : ∃ m z, readO i dt = (m, z) := ⟨_, _, rfl⟩
  obtain ⟨n2, hn2⟩ : ∃ n2, m2.2.2.2.2.2.2.length = n2 := ⟨_, rfl⟩
  have H := ac_read kd sr tg li sq fl nu er sx rk ep dt hd i hi m2 z n2 hres hn2
  have hz : decide (z ≠ 1) = i := by
    cases i
    · obtain ⟨_, rfl⟩ := Prod.mk.inj hres.symm
      rfl
    · replace hres : decO dt = (m2, z) := hres
      rcases decO_cases dt with h | ⟨_, _, h⟩
      · rw [h] at hres
        obtain ⟨_, rfl⟩ := Prod.mk.inj hres
        rfl
      · rw [h] at hres
        obtain ⟨_, rfl⟩ := Prod.mk.inj hres
        rfl
  clear hres
  obtain ⟨root2, op2, run2, v2, f2, u2, C2⟩ := m2
  dsimp only at hn2 H
  refine acalls_law Try.func29 rfl rfl rfl ?_
  repeat' first
    | refine st ?_
    | refine stMW [] H ?_
    | refine stm ?_
    | refine run_want rfl rfl ?_
    | refine run_unwant rfl rfl ?_
    | refine run_undef rfl rfl ?_
    | refine run_guard1t rfl rfl (by omega) ?_
    | refine run_guard1f rfl rfl (by omega) ?_
    | refine run_guard0t rfl rfl (by omega) ?_
    | refine run_guard0f rfl rfl (by omega) ?_
    | refine run_guard1 rfl rfl (fun h1 => ?_) (fun h1 => ?_)
    | refine run_guard0 rfl rfl (fun h1 => ?_) (fun h1 => ?_)
    | refine run_guard rfl rfl (fun h1 => ?_) (fun h1 => ?_)
    | refine run_nil ?_
    | refine aw_seq ?_
    | refine aw_region (by kernel_rfl) (Nat.le_of_ble_eq_true rfl) ?_
    | refine aw_block ?_
    | refine aw_cond_t rfl ?_
    | refine aw_cond_f rfl ?_
    | refine aw_cond_tp rfl (by omega) ?_
    | refine aw_cond_fp rfl (by omega) ?_
    | refine aw_cond1 rfl (fun h1 => ?_) (fun h1 => ?_)
    | refine aw_cond rfl (fun h1 => ?_) (fun h1 => ?_)
    | refine aw_skip ?_
    | refine aw_exit ?_
    | refine aw_ret ?_
    | refine pp_ret ?_
    | refine pp_normal ?_
  all_goals first | exact congrArg Value.bool hz | (exfalso; omega)
set_option maxHeartbeats 16000000 in
theorem law_order (kd sr tg li sq fl nu er sx rk ep : Int) (dt : ByteArray) (kd' sr' tg' li' sq' fl' nu' er' sx' rk' ep' : Int) (dt' : ByteArray) (kd2 sr2 tg2 li2 sq2 fl2 nu2 er2 sx2 rk2 ep2 : Int) (dt2 : ByteArray) : ACalls Try.prog 8 [.agg #[.int .i64 kd, .int .i64 sr, .int .i64 tg, .int .i64 li, .int .i64 sq, .int .i64 fl, .int .i64 nu, .int .i64 er, .int .i64 sx, .int .i64 rk, .int .i64 ep, .string dt], .agg #[.int .i64 kd', .int .i64 sr', .int .i64 tg', .int .i64 li', .int .i64 sq', .int .i64 fl', .int .i64 nu', .int .i64 er', .int .i64 sx', .int .i64 rk', .int .i64 ep', .string dt'], .agg #[.int .i64 kd2, .int .i64 sr2, .int .i64 tg2, .int .i64 li2, .int .i64 sq2, .int .i64 fl2, .int .i64 nu2, .int .i64 er2, .int .i64 sx2, .int .i64 rk2, .int .i64 ep2, .string dt2]] [] (.bool true) [] := by
  by_cases hs : dt.size ≤ 200 ∧ dt'.size ≤ 200 ∧ dt2.size ≤ 200
  · obtain ⟨i, hi⟩ : ∃ i, isC kd sr tg li sq fl nu er sx rk ep = i := ⟨_, rfl⟩
    obtain ⟨j, hj⟩ : ∃ i, isC kd' sr' tg' li' sq' fl' nu' er' sx' rk' ep' = i := ⟨_, rfl⟩
    obtain ⟨k, hk⟩ : ∃ i, isC kd2 sr2 tg2 li2 sq2 fl2 nu2 er2 sx2 rk2 ep2 = i := ⟨_, rfl⟩
    have V1 := ac_valid kd sr tg li sq fl nu er sx rk ep dt (by omega) i hi
    have V2 := ac_valid kd' sr' tg' li' sq' fl' nu' er' sx' rk' ep' dt' (by omega) j hj
    have H0 := ac_better kd sr tg li sq fl nu er sx rk ep dt kd sr tg li sq fl nu er sx rk ep dt i i false hi hi (bet_irr i ep rk sr)
    obtain ⟨x, hx⟩ : ∃ x, betC i j ep rk sr ep' rk' sr' = x := ⟨_, rfl⟩
    obtain ⟨y, hy⟩ : ∃ x, betC j i ep' rk' sr' ep rk sr = x := ⟨_, rfl⟩
    obtain ⟨z, hz⟩ : ∃ x, betC j k ep' rk' sr' ep2 rk2 sr2 = x := ⟨_, rfl⟩
    obtain ⟨w, hw⟩ : ∃ x, betC i k ep rk sr ep2 rk2 sr2 = x := ⟨_, rfl⟩
    have H1 := ac_better kd sr tg li sq fl nu er sx rk ep dt kd' sr' tg' li' sq' fl' nu' er' sx' rk' ep' dt' i j x hi hj hx
    have H2 := ac_better kd' sr' tg' li' sq' fl' nu' er' sx' rk' ep' dt' kd sr tg li sq fl nu er sx rk ep dt j i y hj hi hy
    have H3 := ac_better kd' sr' tg' li' sq' fl' nu' er' sx' rk' ep' dt' kd2 sr2 tg2 li2 sq2 fl2 nu2 er2 sx2 rk2 ep2 dt2 j k z hj hk hz
    have H4 := ac_better kd sr tg li sq fl nu er sx rk ep dt kd2 sr2 tg2 li2 sq2 fl2 nu2 er2 sx2 rk2 ep2 dt2 i k w hi hk hw
    have f1 : x = true → y = false := fun h => by rw [← hy]; exact bet_asym (by rw [hx, h])
    have f2 : x = true → z = true → w = true := fun h g => by rw [← hw]; exact bet_trans (by rw [hx, h]) (by rw [hz, g])
    have f3 : i = false ∨ j = false → x = false := fun h => by rw [← hx]; exact bet_bad h
    have f4 : i = true → j = true → sr ≠ sr' → x = !y := fun h g e => by subst h g; rw [← hx, ← hy]; exact bet_total e
    clear hi hj hk hx hy hz hw
    refine acalls_law Try.func8 rfl rfl rfl ?_
    repeat' first
      | refine st (h := ok_not_dec2 rfl) ?_
      | refine sd (h := ok_not_dec2 rfl) ?_
      | refine st ?_
      | refine st_call (ac_awake) ?_
      | refine st_call (H0) ?_
      | refine st_call (H1) ?_
      | refine st_call (H2) ?_
      | refine st_call (H3) ?_
      | refine st_call (H4) ?_
      | refine st_call (V1) ?_
      | refine st_call (V2) ?_
      | refine sd_call (ac_awake) ?_
      | refine sd_call (H0) ?_
      | refine sd_call (H1) ?_
      | refine sd_call (H2) ?_
      | refine sd_call (H3) ?_
      | refine sd_call (H4) ?_
      | refine sd_call (V1) ?_
      | refine sd_call (V2) ?_
      | refine stm ?_
      | refine run_want rfl rfl ?_
      | refine run_unwant rfl rfl ?_
      | refine run_undef rfl rfl ?_
      | refine run_guard1t rfl rfl (by omega) ?_
      | refine run_guard1f rfl rfl (by omega) ?_
      | refine run_guard0t rfl rfl (by omega) ?_
      | refine run_guard0f rfl rfl (by omega) ?_
      | refine run_guard1 rfl rfl (fun h1 => ?_) (fun h1 => ?_)
      | refine run_guard0 rfl rfl (fun h1 => ?_) (fun h1 => ?_)
      | refine run_guard rfl rfl (fun h1 => ?_) (fun h1 => ?_)
      | refine run_nil ?_
      | refine sd ?_
      | refine sdl ?_
      | refine sdm (n := 1) ?_
      | refine sdm ?_
      | refine sdb ?_
      | refine rund_want rfl rfl ?_
      | refine rund_unwant rfl rfl ?_
      | refine rund_undef rfl rfl ?_
      | refine rund_guard1 rfl rfl (fun h1 => ?_) (fun h1 => ?_)
      | refine rund_guard0 rfl rfl (fun h1 => ?_) (fun h1 => ?_)
      | refine rund_guard rfl rfl (fun h1 => ?_) (fun h1 => ?_)
      | refine rund_nil ?_
      | refine aw_seq ?_
      | refine aw_region (by kernel_rfl) (Nat.le_of_ble_eq_true rfl) ?_
      | refine aw_region_dC (id := 10) [0, 1, 0, 4, 15, 31, 63, 63, 255, 63, 63, 2047, 4095, 8191, 16383] 15 (by (repeat constructor)) (by kernel_rfl) (by kernel_rfl) (by kernel_rfl) (by rfl) ?_
      | refine aw_block ?_
      | refine aw_cond_t rfl ?_
      | refine aw_cond_f rfl ?_
      | refine aw_cond_tp rfl (by omega) ?_
      | refine aw_cond_fp rfl (by omega) ?_
      | refine aw_cond1 rfl (fun h1 => ?_) (fun h1 => ?_)
      | refine aw_cond rfl (fun h1 => ?_) (fun h1 => ?_)
      | refine aw_skip ?_
      | refine aw_exit ?_
      | refine aw_ret ?_
      | refine pp_ret ?_
      | refine pp_normal ?_
    all_goals clear H0 H1 H2 H3 H4 V1 V2 hs
    all_goals first
      | rfl
      | (exfalso; omega)
      | (exfalso; grind)
      | (show Value.bool _ = Value.bool true; congr 1; grind)
  · refine acalls_law Try.func8 rfl rfl rfl ?_
    repeat' first
      | refine st (h := ok_not_dec2 rfl) ?_
      | refine sd (h := ok_not_dec2 rfl) ?_
      | refine st ?_
      | refine st_call (ac_awake) ?_
      | refine stm ?_
      | refine run_want rfl rfl ?_
      | refine run_unwant rfl rfl ?_
      | refine run_undef rfl rfl ?_
      | refine run_guard1t rfl rfl (by omega) ?_
      | refine run_guard1f rfl rfl (by omega) ?_
      | refine run_guard0t rfl rfl (by omega) ?_
      | refine run_guard0f rfl rfl (by omega) ?_
      | refine run_guard1 rfl rfl (fun h1 => ?_) (fun h1 => ?_)
      | refine run_guard0 rfl rfl (fun h1 => ?_) (fun h1 => ?_)
      | refine run_guard rfl rfl (fun h1 => ?_) (fun h1 => ?_)
      | refine run_nil ?_
      | refine sd ?_
      | refine sdl ?_
      | refine sdm (n := 1) ?_
      | refine sdm ?_
      | refine sdb ?_
      | refine rund_want rfl rfl ?_
      | refine rund_unwant rfl rfl ?_
      | refine rund_undef rfl rfl ?_
      | refine rund_guard1 rfl rfl (fun h1 => ?_) (fun h1 => ?_)
      | refine rund_guard0 rfl rfl (fun h1 => ?_) (fun h1 => ?_)
      | refine rund_guard rfl rfl (fun h1 => ?_) (fun h1 => ?_)
      | refine rund_nil ?_
      | refine aw_seq ?_
      | refine aw_region (by kernel_rfl) (Nat.le_of_ble_eq_true rfl) ?_
      | refine aw_region_dC (id := 10) [0, 1, 0, 4, 15, 31, 63, 63, 255, 63, 63, 2047, 4095, 8191, 16383] 15 (by (repeat constructor)) (by kernel_rfl) (by kernel_rfl) (by kernel_rfl) (by rfl) ?_
      | refine aw_block ?_
      | refine aw_cond_t rfl ?_
      | refine aw_cond_f rfl ?_
      | refine aw_cond_tp rfl (by omega) ?_
      | refine aw_cond_fp rfl (by omega) ?_
      | refine aw_cond1 rfl (fun h1 => ?_) (fun h1 => ?_)
      | refine aw_cond rfl (fun h1 => ?_) (fun h1 => ?_)
      | refine aw_skip ?_
      | refine aw_exit ?_
      | refine aw_ret ?_
      | refine pp_ret ?_
      | refine pp_normal ?_
    all_goals first
      | rfl
      | (exfalso; omega)
      | (simp [retOf]; done)
      | (exfalso; simp_all; done)
end Go.Proofs.Ytfabgdignlfihaa
