/- BeaconBack: the law. -/
import Derived.Test.YtfabgdignlfihaaR1
import Derived.Test.YtfabgdignlfihaaN1
import Derived.Test.YtfabgdignlfihaaM5
set_option linter.unusedVariables false
set_option linter.unusedSimpArgs false
namespace Go.Proofs.Ytfabgdignlfihaa
open Go Av
set_option maxRecDepth 20000
set_option maxHeartbeats 16000000 in
theorem law_back (root : Int) (op : Bool) (run : ByteArray) (v f u : Int) (C : List Int) (d : ByteArray) (nd epo pa he rnk le : Int) (slt : Int) : ACalls Try.prog 9 [.agg #[.int .i64 root, .bool op, .string run, .int .i64 v, .int .i64 f, .int .i64 u, .slice (some ⟨0, 0, none⟩) C.length C.length], .string d, .agg #[.int .i64 nd, .int .i64 epo, .int .i64 pa, .int .i64 he, .int .i64 rnk, .int .i64 le], .int .i64 slt] [some ⟨List.map (Value.int .i64) C, false, 1⟩] (.bool true) [none] := by
  obtain ⟨n, hn⟩ : ∃ n, C.length = n := ⟨_, rfl⟩
  rw [hn]
  have HF := ac_few root op run v f u n
  by_cases hf : run.size ≤ 100 ∧ n ≤ 40
  · rw [decide_eq_true hf] at HF
    by_cases hs : d.size ≤ 100
    · obtain ⟨root3, op3, run3, v3, f3, u3, C3, x3, hres3, b3, hx3⟩ := dec_back d
      obtain ⟨n3, hn3⟩ : ∃ s, C3.length = s := ⟨_, rfl⟩
      have H4 := ac_odecode d (by omega) _ x3 n3 hres3 hn3
      dsimp only at H4
      obtain ⟨y, hy⟩ : ∃ y, chkO root run v f u C = y := ⟨_, rfl⟩
      have H2 := ac_ocheck root op run v f u C n hn (by omega) y hy
      by_cases hy0 : y = 0
      · subst hy0
        have H1 := ac_oencode0 root op run v f u C n hn (by omega) hy
        have hsz := enc_len (op := op) hy
        have hde := dec_enc (op := op) hy
        have H3 := ac_odecode (pkB (ofB root op run v f u C)) (by omega) _ 0 n hde hn
        dsimp only at H3
        have H5 := ac_same root op run v f u root op run v f u C C n n hn hn (by omega) (by omega) true (decide_eq_true ⟨rfl, rfl, rfl, rfl, rfl, rfl, rfl⟩)
        obtain ⟨m, z, hm⟩ : ∃ m y, mkF nd epo rnk 1 2 slt 0 (pkB (ofB root op run v f u C)) = (m, y) := ⟨_, _, rfl⟩
        have H7 := ac_make nd epo pa he rnk le 1 2 slt root op run v f u C n hn (by omega) 0 hy m z hm
        unfold mkF at hm
        rw [if_neg (by simp)] at hm
        have h8 := fun hi => ac_read 3 nd (-1) 1 2 0 0 0 slt rnk epo (pkB (ofB root op run v f u C)) (by omega) true hi (root, op, run, v, f, u, C) 0 n hde hn
        clear hde
        generalize pkB (ofB root op run v f u C) = w at H1 H3 H7 hm h8 hsz
        by_cases hr : 65535 ≤ rnk
        · rw [if_pos hr] at hm
          obtain ⟨rfl, rfl⟩ := Prod.mk.inj hm.symm
          dsimp only [frV, fr0] at H7
          rcases hx3 with rfl | ⟨rfl, g1, g2⟩
          · clear hres3
            refine acalls_law Try.func9 rfl rfl rfl ?_
            repeat' first
              | refine st (h := ok_not_dec2 rfl) ?_
              | refine st (h := ok_str_eqlT rfl rfl) ?_
              | refine st (h := ok_str_neqF rfl rfl) ?_
              | refine st ?_
              | refine st_call (ac_awake) ?_
              | refine stRW [0] HF ?_
              | refine stRW [0] H1 ?_
              | refine stRW [2] H6 ?_
              | refine stRW [3] H6 ?_
              | refine stRW [4] H6 ?_
              | refine stMW [] H4 ?_
              | refine stMW [] H3 ?_
              | refine stRW [3, 0] H5 ?_
              | refine stRW [4, 0] H5 ?_
              | refine stRW [5, 0] H5 ?_
              | refine stRW [6, 0] H5 ?_
              | refine stRW [7, 0] H5 ?_
              | refine stRW [0] H7 ?_
              | refine stm ?_
              | refine run_want rfl rfl ?_
              | refine run_unwant rfl rfl ?_
              | refine run_undef rfl rfl ?_
              | refine run_guard1t rfl rfl (by omega) ?_
              | refine run_guard1f rfl rfl (by omega) ?_
              | refine run_guard0t rfl rfl (by omega) ?_
              | refine run_guard0f rfl rfl (by omega) ?_
              | refine run_guard1 rfl rfl (fun h1 => ?_) (fun h1 => ?_)
              | refine run_guard0 rfl rfl (fun h1 => ?_) (fun h1 => ?_)
              | refine run_guard rfl rfl (fun h1 => ?_) (fun h1 => ?_)
              | refine run_nil ?_
              | refine aw_seq ?_
              | refine aw_region (by kernel_rfl) (Nat.le_of_ble_eq_true rfl) ?_
              | refine aw_block ?_
              | refine aw_cond_t rfl ?_
              | refine aw_cond_f rfl ?_
              | refine aw_cond_tp rfl (by omega) ?_
              | refine aw_cond_fp rfl (by omega) ?_
              | refine aw_cond1 rfl (fun h1 => ?_) (fun h1 => ?_)
              | refine aw_cond rfl (fun h1 => ?_) (fun h1 => ?_)
              | refine aw_skip ?_
              | refine aw_exit ?_
              | refine aw_ret ?_
              | refine pp_ret ?_
              | refine pp_normal ?_
            all_goals first
              | rfl
              | (exfalso; omega)
              | (simp [retOf]; done)
              | (exfalso; simp_all; done)
          · have H6 := ac_oencode0 root3 op3 run3 v3 f3 u3 C3 n3 hn3 (by omega) g1
            rw [g2] at H6
            clear hres3 g2
            refine acalls_law Try.func9 rfl rfl rfl ?_
            repeat' first
              | refine st (h := ok_not_dec2 rfl) ?_
              | refine st (h := ok_str_eqlT rfl rfl) ?_
              | refine st (h := ok_str_neqF rfl rfl) ?_
              | refine st ?_
              | refine st_call (ac_awake) ?_
              | refine stRW [0] HF ?_
              | refine stRW [0] H1 ?_
              | refine stRW [2] H6 ?_
              | refine stRW [3] H6 ?_
              | refine stRW [4] H6 ?_
              | refine stMW [] H4 ?_
              | refine stMW [] H3 ?_
              | refine stRW [3, 0] H5 ?_
              | refine stRW [4, 0] H5 ?_
              | refine stRW [5, 0] H5 ?_
              | refine stRW [6, 0] H5 ?_
              | refine stRW [7, 0] H5 ?_
              | refine stRW [0] H7 ?_
              | refine stm ?_
              | refine run_want rfl rfl ?_
              | refine run_unwant rfl rfl ?_
              | refine run_undef rfl rfl ?_
              | refine run_guard1t rfl rfl (by omega) ?_
              | refine run_guard1f rfl rfl (by omega) ?_
              | refine run_guard0t rfl rfl (by omega) ?_
              | refine run_guard0f rfl rfl (by omega) ?_
              | refine run_guard1 rfl rfl (fun h1 => ?_) (fun h1 => ?_)
              | refine run_guard0 rfl rfl (fun h1 => ?_) (fun h1 => ?_)
              | refine run_guard rfl rfl (fun h1 => ?_) (fun h1 => ?_)
              | refine run_nil ?_
              | refine aw_seq ?_
              | refine aw_region (by kernel_rfl) (Nat.le_of_ble_eq_true rfl) ?_
              | refine aw_block ?_
              | refine aw_cond_t rfl ?_
              | refine aw_cond_f rfl ?_
              | refine aw_cond_tp rfl (by omega) ?_
              | refine aw_cond_fp rfl (by omega) ?_
              | refine aw_cond1 rfl (fun h1 => ?_) (fun h1 => ?_)
              | refine aw_cond rfl (fun h1 => ?_) (fun h1 => ?_)
              | refine aw_skip ?_
              | refine aw_exit ?_
              | refine aw_ret ?_
              | refine pp_ret ?_
              | refine pp_normal ?_
            all_goals first
              | rfl
              | (exfalso; omega)
              | (simp [retOf]; done)
              | (exfalso; simp_all; done)
        · rw [if_neg hr] at hm
          by_cases hz : okC nd (-1) 1 2 0 0 0 slt rnk epo = true
          · rw [if_pos hz] at hm
            obtain ⟨rfl, rfl⟩ := Prod.mk.inj hm.symm
            dsimp only [frV] at H7
            have H8 := h8 (by unfold isC; rw [hz]; rfl)
            dsimp only at H8
            rcases hx3 with rfl | ⟨rfl, g1, g2⟩
            · clear hres3
              refine acalls_law Try.func9 rfl rfl rfl ?_
              repeat' first
                | refine st (h := ok_not_dec2 rfl) ?_
                | refine st (h := ok_str_eqlT rfl rfl) ?_
                | refine st (h := ok_str_neqF rfl rfl) ?_
                | refine st ?_
                | refine st_call (ac_awake) ?_
                | refine stRW [0] HF ?_
                | refine stRW [0] H1 ?_
                | refine stRW [2] H6 ?_
                | refine stRW [3] H6 ?_
                | refine stRW [4] H6 ?_
                | refine stMW [] H4 ?_
                | refine stMW [] H3 ?_
                | refine stRW [3, 0] H5 ?_
                | refine stRW [4, 0] H5 ?_
                | refine stRW [5, 0] H5 ?_
                | refine stRW [6, 0] H5 ?_
                | refine stRW [7, 0] H5 ?_
                | refine stRW [0] H7 ?_
                | refine stMW [] H8 ?_
                | refine stRW [8, 0] H5 ?_
                | refine stRW [9, 0] H5 ?_
                | refine stRW [10, 0] H5 ?_
                | refine stm ?_
                | refine run_want rfl rfl ?_
                | refine run_unwant rfl rfl ?_
                | refine run_undef rfl rfl ?_
                | refine run_guard1t rfl rfl (by omega) ?_
                | refine run_guard1f rfl rfl (by omega) ?_
                | refine run_guard0t rfl rfl (by omega) ?_
                | refine run_guard0f rfl rfl (by omega) ?_
                | refine run_guard1 rfl rfl (fun h1 => ?_) (fun h1 => ?_)
                | refine run_guard0 rfl rfl (fun h1 => ?_) (fun h1 => ?_)
                | refine run_guard rfl rfl (fun h1 => ?_) (fun h1 => ?_)
                | refine run_nil ?_
                | refine aw_seq ?_
                | refine aw_region (by kernel_rfl) (Nat.le_of_ble_eq_true rfl) ?_
                | refine aw_block ?_
                | refine aw_cond_t rfl ?_
                | refine aw_cond_f rfl ?_
                | refine aw_cond_tp rfl (by omega) ?_
                | refine aw_cond_fp rfl (by omega) ?_
                | refine aw_cond1 rfl (fun h1 => ?_) (fun h1 => ?_)
                | refine aw_cond rfl (fun h1 => ?_) (fun h1 => ?_)
                | refine aw_skip ?_
                | refine aw_exit ?_
                | refine aw_ret ?_
                | refine pp_ret ?_
                | refine pp_normal ?_
              all_goals first
                | rfl
                | (exfalso; omega)
                | (simp [retOf]; done)
                | (exfalso; simp_all; done)
            · have H6 := ac_oencode0 root3 op3 run3 v3 f3 u3 C3 n3 hn3 (by omega) g1
              rw [g2] at H6
              clear hres3 g2
              refine acalls_law Try.func9 rfl rfl rfl ?_
              repeat' first
                | refine st (h := ok_not_dec2 rfl) ?_
                | refine st (h := ok_str_eqlT rfl rfl) ?_
                | refine st (h := ok_str_neqF rfl rfl) ?_
                | refine st ?_
                | refine st_call (ac_awake) ?_
                | refine stRW [0] HF ?_
                | refine stRW [0] H1 ?_
                | refine stRW [2] H6 ?_
                | refine stRW [3] H6 ?_
                | refine stRW [4] H6 ?_
                | refine stMW [] H4 ?_
                | refine stMW [] H3 ?_
                | refine stRW [3, 0] H5 ?_
                | refine stRW [4, 0] H5 ?_
                | refine stRW [5, 0] H5 ?_
                | refine stRW [6, 0] H5 ?_
                | refine stRW [7, 0] H5 ?_
                | refine stRW [0] H7 ?_
                | refine stMW [] H8 ?_
                | refine stRW [8, 0] H5 ?_
                | refine stRW [9, 0] H5 ?_
                | refine stRW [10, 0] H5 ?_
                | refine stm ?_
                | refine run_want rfl rfl ?_
                | refine run_unwant rfl rfl ?_
                | refine run_undef rfl rfl ?_
                | refine run_guard1t rfl rfl (by omega) ?_
                | refine run_guard1f rfl rfl (by omega) ?_
                | refine run_guard0t rfl rfl (by omega) ?_
                | refine run_guard0f rfl rfl (by omega) ?_
                | refine run_guard1 rfl rfl (fun h1 => ?_) (fun h1 => ?_)
                | refine run_guard0 rfl rfl (fun h1 => ?_) (fun h1 => ?_)
                | refine run_guard rfl rfl (fun h1 => ?_) (fun h1 => ?_)
                | refine run_nil ?_
                | refine aw_seq ?_
                | refine aw_region (by kernel_rfl) (Nat.le_of_ble_eq_true rfl) ?_
                | refine aw_block ?_
                | refine aw_cond_t rfl ?_
                | refine aw_cond_f rfl ?_
                | refine aw_cond_tp rfl (by omega) ?_
                | refine aw_cond_fp rfl (by omega) ?_
                | refine aw_cond1 rfl (fun h1 => ?_) (fun h1 => ?_)
                | refine aw_cond rfl (fun h1 => ?_) (fun h1 => ?_)
                | refine aw_skip ?_
                | refine aw_exit ?_
                | refine aw_ret ?_
                | refine pp_ret ?_
                | refine pp_normal ?_
              all_goals first
                | rfl
                | (exfalso; omega)
                | (simp [retOf]; done)
                | (exfalso; simp_all; done)
          · rw [if_neg hz] at hm
            obtain ⟨rfl, rfl⟩ := Prod.mk.inj hm.symm
            dsimp only [frV, fr0] at H7
            rcases hx3 with rfl | ⟨rfl, g1, g2⟩
            · clear hres3
              refine acalls_law Try.func9 rfl rfl rfl ?_
              repeat' first
                | refine st (h := ok_not_dec2 rfl) ?_
                | refine st (h := ok_str_eqlT rfl rfl) ?_
                | refine st (h := ok_str_neqF rfl rfl) ?_
                | refine st ?_
                | refine st_call (ac_awake) ?_
                | refine stRW [0] HF ?_
                | refine stRW [0] H1 ?_
                | refine stRW [2] H6 ?_
                | refine stRW [3] H6 ?_
                | refine stRW [4] H6 ?_
                | refine stMW [] H4 ?_
                | refine stMW [] H3 ?_
                | refine stRW [3, 0] H5 ?_
                | refine stRW [4, 0] H5 ?_
                | refine stRW [5, 0] H5 ?_
                | refine stRW [6, 0] H5 ?_
                | refine stRW [7, 0] H5 ?_
                | refine stRW [0] H7 ?_
                | refine stm ?_
                | refine run_want rfl rfl ?_
                | refine run_unwant rfl rfl ?_
                | refine run_undef rfl rfl ?_
                | refine run_guard1t rfl rfl (by omega) ?_
                | refine run_guard1f rfl rfl (by omega) ?_
                | refine run_guard0t rfl rfl (by omega) ?_
                | refine run_guard0f rfl rfl (by omega) ?_
                | refine run_guard1 rfl rfl (fun h1 => ?_) (fun h1 => ?_)
                | refine run_guard0 rfl rfl (fun h1 => ?_) (fun h1 => ?_)
                | refine run_guard rfl rfl (fun h1 => ?_) (fun h1 => ?_)
                | refine run_nil ?_
                | refine aw_seq ?_
                | refine aw_region (by kernel_rfl) (Nat.le_of_ble_eq_true rfl) ?_
                | refine aw_block ?_
                | refine aw_cond_t rfl ?_
                | refine aw_cond_f rfl ?_
                | refine aw_cond_tp rfl (by omega) ?_
                | refine aw_cond_fp rfl (by omega) ?_
                | refine aw_cond1 rfl (fun h1 => ?_) (fun h1 => ?_)
                | refine aw_cond rfl (fun h1 => ?_) (fun h1 => ?_)
                | refine aw_skip ?_
                | refine aw_exit ?_
                | refine aw_ret ?_
                | refine pp_ret ?_
                | refine pp_normal ?_
              all_goals first
                | rfl
                | (exfalso; omega)
                | (simp [retOf]; done)
                | (exfalso; simp_all; done)
            · have H6 := ac_oencode0 root3 op3 run3 v3 f3 u3 C3 n3 hn3 (by omega) g1
              rw [g2] at H6
              clear hres3 g2
              refine acalls_law Try.func9 rfl rfl rfl ?_
              repeat' first
                | refine st (h := ok_not_dec2 rfl) ?_
                | refine st (h := ok_str_eqlT rfl rfl) ?_
                | refine st (h := ok_str_neqF rfl rfl) ?_
                | refine st ?_
                | refine st_call (ac_awake) ?_
                | refine stRW [0] HF ?_
                | refine stRW [0] H1 ?_
                | refine stRW [2] H6 ?_
                | refine stRW [3] H6 ?_
                | refine stRW [4] H6 ?_
                | refine stMW [] H4 ?_
                | refine stMW [] H3 ?_
                | refine stRW [3, 0] H5 ?_
                | refine stRW [4, 0] H5 ?_
                | refine stRW [5, 0] H5 ?_
                | refine stRW [6, 0] H5 ?_
                | refine stRW [7, 0] H5 ?_
                | refine stRW [0] H7 ?_
                | refine stm ?_
                | refine run_want rfl rfl ?_
                | refine run_unwant rfl rfl ?_
                | refine run_undef rfl rfl ?_
                | refine run_guard1t rfl rfl (by omega) ?_
                | refine run_guard1f rfl rfl (by omega) ?_
                | refine run_guard0t rfl rfl (by omega) ?_
                | refine run_guard0f rfl rfl (by omega) ?_
                | refine run_guard1 rfl rfl (fun h1 => ?_) (fun h1 => ?_)
                | refine run_guard0 rfl rfl (fun h1 => ?_) (fun h1 => ?_)
                | refine run_guard rfl rfl (fun h1 => ?_) (fun h1 => ?_)
                | refine run_nil ?_
                | refine aw_seq ?_
                | refine aw_region (by kernel_rfl) (Nat.le_of_ble_eq_true rfl) ?_
                | refine aw_block ?_
                | refine aw_cond_t rfl ?_
                | refine aw_cond_f rfl ?_
                | refine aw_cond_tp rfl (by omega) ?_
                | refine aw_cond_fp rfl (by omega) ?_
                | refine aw_cond1 rfl (fun h1 => ?_) (fun h1 => ?_)
                | refine aw_cond rfl (fun h1 => ?_) (fun h1 => ?_)
                | refine aw_skip ?_
                | refine aw_exit ?_
                | refine aw_ret ?_
                | refine pp_ret ?_
                | refine pp_normal ?_
              all_goals first
                | rfl
                | (exfalso; omega)
                | (simp [retOf]; done)
                | (exfalso; simp_all; done)
      · have H1 := ac_oencodeE root op run v f u C n hn (by omega) y hy hy0
        rcases hx3 with rfl | ⟨rfl, g1, g2⟩
        · clear hres3
          refine acalls_law Try.func9 rfl rfl rfl ?_
          repeat' first
            | refine st (h := ok_not_dec2 rfl) ?_
            | refine st (h := ok_str_eqlT rfl rfl) ?_
            | refine st (h := ok_str_neqF rfl rfl) ?_
            | refine st ?_
            | refine st_call (ac_awake) ?_
            | refine stRW [0] HF ?_
            | refine stRW [0] H1 ?_
            | refine stRW [0] H2 ?_
            | refine stRW [2] H6 ?_
            | refine stRW [3] H6 ?_
            | refine stRW [4] H6 ?_
            | refine stMW [] H4 ?_
            | refine stm ?_
            | refine run_want rfl rfl ?_
            | refine run_unwant rfl rfl ?_
            | refine run_undef rfl rfl ?_
            | refine run_guard1t rfl rfl (by omega) ?_
            | refine run_guard1f rfl rfl (by omega) ?_
            | refine run_guard0t rfl rfl (by omega) ?_
            | refine run_guard0f rfl rfl (by omega) ?_
            | refine run_guard1 rfl rfl (fun h1 => ?_) (fun h1 => ?_)
            | refine run_guard0 rfl rfl (fun h1 => ?_) (fun h1 => ?_)
            | refine run_guard rfl rfl (fun h1 => ?_) (fun h1 => ?_)
            | refine run_nil ?_
            | refine aw_seq ?_
            | refine aw_region (by kernel_rfl) (Nat.le_of_ble_eq_true rfl) ?_
            | refine aw_block ?_
            | refine aw_cond_t rfl ?_
            | refine aw_cond_f rfl ?_
            | refine aw_cond_tp rfl (by omega) ?_
            | refine aw_cond_fp rfl (by omega) ?_
            | refine aw_cond1 rfl (fun h1 => ?_) (fun h1 => ?_)
            | refine aw_cond rfl (fun h1 => ?_) (fun h1 => ?_)
            | refine aw_skip ?_
            | refine aw_exit ?_
            | refine aw_ret ?_
            | refine pp_ret ?_
            | refine pp_normal ?_
          all_goals first
            | rfl
            | (exfalso; omega)
            | (simp [retOf]; done)
            | (exfalso; simp_all; done)
        · have H6 := ac_oencode0 root3 op3 run3 v3 f3 u3 C3 n3 hn3 (by omega) g1
          rw [g2] at H6
          clear hres3 g2
          refine acalls_law Try.func9 rfl rfl rfl ?_
          repeat' first
            | refine st (h := ok_not_dec2 rfl) ?_
            | refine st (h := ok_str_eqlT rfl rfl) ?_
            | refine st (h := ok_str_neqF rfl rfl) ?_
            | refine st ?_
            | refine st_call (ac_awake) ?_
            | refine stRW [0] HF ?_
            | refine stRW [0] H1 ?_
            | refine stRW [0] H2 ?_
            | refine stRW [2] H6 ?_
            | refine stRW [3] H6 ?_
            | refine stRW [4] H6 ?_
            | refine stMW [] H4 ?_
            | refine stm ?_
            | refine run_want rfl rfl ?_
            | refine run_unwant rfl rfl ?_
            | refine run_undef rfl rfl ?_
            | refine run_guard1t rfl rfl (by omega) ?_
            | refine run_guard1f rfl rfl (by omega) ?_
            | refine run_guard0t rfl rfl (by omega) ?_
            | refine run_guard0f rfl rfl (by omega) ?_
            | refine run_guard1 rfl rfl (fun h1 => ?_) (fun h1 => ?_)
            | refine run_guard0 rfl rfl (fun h1 => ?_) (fun h1 => ?_)
            | refine run_guard rfl rfl (fun h1 => ?_) (fun h1 => ?_)
            | refine run_nil ?_
            | refine aw_seq ?_
            | refine aw_region (by kernel_rfl) (Nat.le_of_ble_eq_true rfl) ?_
            | refine aw_block ?_
            | refine aw_cond_t rfl ?_
            | refine aw_cond_f rfl ?_
            | refine aw_cond_tp rfl (by omega) ?_
            | refine aw_cond_fp rfl (by omega) ?_
            | refine aw_cond1 rfl (fun h1 => ?_) (fun h1 => ?_)
            | refine aw_cond rfl (fun h1 => ?_) (fun h1 => ?_)
            | refine aw_skip ?_
            | refine aw_exit ?_
            | refine aw_ret ?_
            | refine pp_ret ?_
            | refine pp_normal ?_
          all_goals first
            | rfl
            | (exfalso; omega)
            | (simp [retOf]; done)
            | (exfalso; simp_all; done)
    · refine acalls_law Try.func9 rfl rfl rfl ?_
      repeat' first
        | refine st (h := ok_not_dec2 rfl) ?_
        | refine st ?_
        | refine st_call (ac_awake) ?_
        | refine stRW [0] HF ?_
        | refine stm ?_
        | refine run_want rfl rfl ?_
        | refine run_unwant rfl rfl ?_
        | refine run_undef rfl rfl ?_
        | refine run_guard1t rfl rfl (by omega) ?_
        | refine run_guard1f rfl rfl (by omega) ?_
        | refine run_guard0t rfl rfl (by omega) ?_
        | refine run_guard0f rfl rfl (by omega) ?_
        | refine run_guard1 rfl rfl (fun h1 => ?_) (fun h1 => ?_)
        | refine run_guard0 rfl rfl (fun h1 => ?_) (fun h1 => ?_)
        | refine run_guard rfl rfl (fun h1 => ?_) (fun h1 => ?_)
        | refine run_nil ?_
        | refine aw_seq ?_
        | refine aw_region (by kernel_rfl) (Nat.le_of_ble_eq_true rfl) ?_
        | refine aw_block ?_
        | refine aw_cond_t rfl ?_
        | refine aw_cond_f rfl ?_
        | refine aw_cond_tp rfl (by omega) ?_
        | refine aw_cond_fp rfl (by omega) ?_
        | refine aw_cond1 rfl (fun h1 => ?_) (fun h1 => ?_)
        | refine aw_cond rfl (fun h1 => ?_) (fun h1 => ?_)
        | refine aw_skip ?_
        | refine aw_exit ?_
        | refine aw_ret ?_
        | refine pp_ret ?_
        | refine pp_normal ?_
      all_goals first
        | rfl
        | (exfalso; omega)
        | (simp [retOf]; done)
        | (exfalso; simp_all; done)
  · rw [decide_eq_false hf] at HF
    refine acalls_law Try.func9 rfl rfl rfl ?_
    repeat' first
      | refine st (h := ok_not_dec2 rfl) ?_
      | refine st ?_
      | refine st_call (ac_awake) ?_
      | refine stRW [0] HF ?_
      | refine stm ?_
      | refine run_want rfl rfl ?_
      | refine run_unwant rfl rfl ?_
      | refine run_undef rfl rfl ?_
      | refine run_guard1t rfl rfl (by omega) ?_
      | refine run_guard1f rfl rfl (by omega) ?_
      | refine run_guard0t rfl rfl (by omega) ?_
      | refine run_guard0f rfl rfl (by omega) ?_
      | refine run_guard1 rfl rfl (fun h1 => ?_) (fun h1 => ?_)
      | refine run_guard0 rfl rfl (fun h1 => ?_) (fun h1 => ?_)
      | refine run_guard rfl rfl (fun h1 => ?_) (fun h1 => ?_)
      | refine run_nil ?_
      | refine aw_seq ?_
      | refine aw_region (by kernel_rfl) (Nat.le_of_ble_eq_true rfl) ?_
      | refine aw_block ?_
      | refine aw_cond_t rfl ?_
      | refine aw_cond_f rfl ?_
      | refine aw_cond_tp rfl (by omega) ?_
      | refine aw_cond_fp rfl (by omega) ?_
      | refine aw_cond1 rfl (fun h1 => ?_) (fun h1 => ?_)
      | refine aw_cond rfl (fun h1 => ?_) (fun h1 => ?_)
      | refine aw_skip ?_
      | refine aw_exit ?_
      | refine aw_ret ?_
      | refine pp_ret ?_
      | refine pp_normal ?_
    all_goals first
      | rfl
      | (exfalso; omega)
      | (simp [retOf]; done)
      | (exfalso; simp_all; done)
end Go.Proofs.Ytfabgdignlfihaa
