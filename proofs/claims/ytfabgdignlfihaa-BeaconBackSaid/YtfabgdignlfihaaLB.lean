/- BeaconReads: the law. -/
import Derived.Test.YtfabgdignlfihaaLZ
import Derived.Test.YtfabgdignlfihaaH7
import Derived.Test.YtfabgdignlfihaaH8
import Derived.Test.YtfabgdignlfihaaL0
set_option linter.unusedVariables false
set_option linter.unusedSimpArgs false
namespace Go.Proofs.Ytfabgdignlfihaa
open Go Av
set_option maxRecDepth 20000
theorem chkO_len {root : Int} {run : ByteArray} {v f u : Int} {C : List Int} (h : chkO root run v f u C = 0) : C.length ≤ 16 := by
  obtain ⟨_, _, h⟩ := chkO_zero h
  rcases h with h | h
  · have := of_decide_eq_true h; omega
  · exact (chOK_len (chkH_0 h).2.2.2.2).2.1
theorem decO_cases (d : ByteArray) : decO d = (of0, 10) ∨ (closeR d (rdO d).2.1 (rdO d).2.2 = 0 ∧ chkOf (rdO d).1 = 0 ∧ decO d = ((rdO d).1, 0)) := by
  unfold decO
  by_cases h : closeR d (rdO d).2.1 (rdO d).2.2 ≠ 0
  · rw [if_pos h]; exact .inl rfl
  · rw [if_neg h]
    by_cases h2 : chkOf (rdO d).1 ≠ 0
    · rw [if_pos h2]; exact .inl rfl
    · rw [if_neg h2]
      exact .inr ⟨Decidable.byContradiction h, Decidable.byContradiction h2, rfl⟩
theorem decO_len {d : ByteArray} {m : OfT} {x : Int} (h : decO d = (m, x)) : m.2.2.2.2.2.2.length ≤ 16 := by
  rcases decO_cases d with h1 | ⟨_, h2, h1⟩
  · rw [h1] at h
    obtain ⟨rfl, _⟩ := Prod.mk.inj h
    decide
  · rw [h1] at h
    obtain ⟨rfl, _⟩ := Prod.mk.inj h
    exact chkO_len h2
set_option maxHeartbeats 4000000 in
theorem law_reads (d : ByteArray) : ACalls Try.prog 7 [.string d] [] (.bool true) [] := by
  by_cases hd : d.size ≤ 100
  · obtain ⟨m, x, hres⟩ : ∃ m x, decO d = (m, x) := ⟨_, _, rfl⟩
    obtain ⟨n, hn⟩ : ∃ s, m.2.2.2.2.2.2.length = s := ⟨_, rfl⟩
    have H1 := ac_odecode d (by omega) m x n hres hn
    have H2 := ac_rodecode d (by omega) m x n hres hn
    have hlen := decO_len hres
    rw [hn] at hlen
    clear hres
    obtain ⟨root, op, run, v, f, u, C⟩ := m
    dsimp only at hn H1 H2
    have H3 := ac_same root op run v f u root op run v f u C C n n hn hn (by omega) (by omega) true (decide_eq_true ⟨rfl, rfl, rfl, rfl, rfl, rfl, rfl⟩)
    refine acalls_law Try.func7 rfl rfl rfl ?_
    repeat' first
      | refine st (h := ok_not_dec2 rfl) ?_
      | refine st ?_
      | refine st_call (ac_awake) ?_
      | refine stMW [] H1 ?_
      | refine stMW [] H2 ?_
      | refine stRW [1, 3] H3 ?_
      | refine stRW [0, 2] H3 ?_
      | refine stm ?_
      | refine run_want rfl rfl ?_
      | refine run_unwant rfl rfl ?_
      | refine run_undef rfl rfl ?_
      | refine run_guard1t rfl rfl (by omega) ?_
      | refine run_guard1f rfl rfl (by omega) ?_
      | refine run_guard0t rfl rfl (by omega) ?_
      | refine run_guard0f rfl rfl (by omega) ?_
      | refine run_guard1 rfl rfl (fun h1 => ?_) (fun h1 => ?_)
      | refine run_guard0 rfl rfl (fun h1 => ?_) (fun h1 => ?_)
      | refine run_guard rfl rfl (fun h1 => ?_) (fun h1 => ?_)
      | refine run_nil ?_
      | refine aw_seq ?_
      | refine aw_region (by kernel_rfl) (Nat.le_of_ble_eq_true rfl) ?_
      | refine aw_block ?_
      | refine aw_cond_t rfl ?_
      | refine aw_cond_f rfl ?_
      | refine aw_cond_tp rfl (by omega) ?_
      | refine aw_cond_fp rfl (by omega) ?_
      | refine aw_cond1 rfl (fun h1 => ?_) (fun h1 => ?_)
      | refine aw_cond rfl (fun h1 => ?_) (fun h1 => ?_)
      | refine aw_skip ?_
      | refine aw_exit ?_
      | refine aw_ret ?_
      | refine pp_ret ?_
      | refine pp_normal ?_
    all_goals first
      | rfl
      | (exfalso; omega)
      | (simp [retOf]; done)
      | (exfalso; simp_all; done)
  · refine acalls_law Try.func7 rfl rfl rfl ?_
    repeat' first
      | refine st (h := ok_not_dec2 rfl) ?_
      | refine st ?_
      | refine st_call (ac_awake) ?_
      | refine stm ?_
      | refine run_want rfl rfl ?_
      | refine run_unwant rfl rfl ?_
      | refine run_undef rfl rfl ?_
      | refine run_guard1t rfl rfl (by omega) ?_
      | refine run_guard1f rfl rfl (by omega) ?_
      | refine run_guard0t rfl rfl (by omega) ?_
      | refine run_guard0f rfl rfl (by omega) ?_
      | refine run_guard1 rfl rfl (fun h1 => ?_) (fun h1 => ?_)
      | refine run_guard0 rfl rfl (fun h1 => ?_) (fun h1 => ?_)
      | refine run_guard rfl rfl (fun h1 => ?_) (fun h1 => ?_)
      | refine run_nil ?_
      | refine aw_seq ?_
      | refine aw_region (by kernel_rfl) (Nat.le_of_ble_eq_true rfl) ?_
      | refine aw_block ?_
      | refine aw_cond_t rfl ?_
      | refine aw_cond_f rfl ?_
      | refine aw_cond_tp rfl (by omega) ?_
      | refine aw_cond_fp rfl (by omega) ?_
      | refine aw_cond1 rfl (fun h1 => ?_) (fun h1 => ?_)
      | refine aw_cond rfl (fun h1 => ?_) (fun h1 => ?_)
      | refine aw_skip ?_
      | refine aw_exit ?_
      | refine aw_ret ?_
      | refine pp_ret ?_
      | refine pp_normal ?_
    all_goals first
      | rfl
      | (exfalso; omega)
      | (simp [retOf]; done)
      | (exfalso; simp_all; done)
end Go.Proofs.Ytfabgdignlfihaa
