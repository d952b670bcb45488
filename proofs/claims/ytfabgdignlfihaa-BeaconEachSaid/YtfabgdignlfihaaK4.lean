/- Who is due. -/
import Derived.Test.YtfabgdignlfihaaK2
import Derived.Test.YtfabgdignlfihaaI7
set_option linter.unusedVariables false
set_option linter.unusedSimpArgs false
namespace Go.Proofs.Ytfabgdignlfihaa
open Go Av
set_option maxRecDepth 20000
/-- The node of a table is due. -/
def dueB (node len : Int) (C : List Ce) (s t : Int) : Bool := match atR node len C s with
  | some c => (turnR node len C s t).2 && (decide (c.2.2.1 = 3) && decide ((turnR node len C s t).1 = node % t))
  | none => false
theorem turnR_true {node len : Int} {C : List Ce} {s t p : Int} (h : turnR node len C s t = (p, true)) : chkT node len C = 0 ∧ (1 ≤ t ∧ t ≤ 32) ∧ 0 ≤ s := by
  unfold turnR at h
  by_cases h1 : chkT node len C ≠ 0 ∨ t < 1 ∨ 32 < t ∨ s < 0
  · rw [if_pos h1] at h; cases h
  · exact ⟨Decidable.byContradiction fun h => h1 (.inl h), by omega, by omega⟩
set_option maxHeartbeats 4000000 in
theorem ac_due (node len : Int) (C : List Ce) (n : Nat) (hn : C.length = n) (hb : n ≤ 1000000) (s t : Int) (hs : s ≤ 9223372036854775807) (x : Bool) (hx : dueB node len C s t = x) : ACalls Try.prog 22 [.agg #[.int .i64 node, .int .i64 len, .slice (some ⟨0, 0, none⟩) n n], .int .i64 s, .int .i64 t] [some ⟨C.flatMap tcC, false, 6⟩] (.bool x) [none] := by
  unfold dueB at hx
  obtain ⟨o, ho⟩ : ∃ o, atR node len C s = o := ⟨_, rfl⟩
  obtain ⟨p, z, hp⟩ : ∃ p z, turnR node len C s t = (p, z) := ⟨_, _, rfl⟩
  have HT := ac_turn node len C n hn hb s t hs p z hp
  rw [ho, hp] at hx
  cases o with
  | none =>
    have HA : ACalls Try.prog 54 [.agg #[.int .i64 node, .int .i64 len, .slice (some ⟨0, 0, none⟩) n n], .int .i64 s] [some ⟨C.flatMap tcC, false, 6⟩] (.tuple #[.agg #[.int .i64 0, .int .i64 0, .int .i64 0, .bool false, .int .i64 0, .int .i64 0], .bool false]) [none] := ac_at node len C n hn hb s none ho
    obtain rfl : x = false := hx.symm
    cases z
    · refine acalls_law Try.func22 rfl rfl rfl ?_
      repeat' first
        | refine st ?_
        | refine stRW [0] HA ?_
        | refine stRW [0] HT ?_
        | refine sdRW [0] HA ?_
        | refine sdRW [0] HT ?_
        | refine stm ?_
        | refine run_want rfl rfl ?_
        | refine run_unwant rfl rfl ?_
        | refine run_undef rfl rfl ?_
        | refine run_guard1t rfl rfl (by omega) ?_
        | refine run_guard1f rfl rfl (by omega) ?_
        | refine run_guard0t rfl rfl (by omega) ?_
        | refine run_guard0f rfl rfl (by omega) ?_
        | refine run_guard1 rfl rfl (fun h1 => ?_) (fun h1 => ?_)
        | refine run_guard0 rfl rfl (fun h1 => ?_) (fun h1 => ?_)
        | refine run_guard rfl rfl (fun h1 => ?_) (fun h1 => ?_)
        | refine run_nil ?_
        | refine aw_seq ?_
        | refine aw_region (by kernel_rfl) (Nat.le_of_ble_eq_true rfl) ?_
        | refine aw_block ?_
        | refine aw_cond_t rfl ?_
        | refine aw_cond_f rfl ?_
        | refine aw_cond_tp rfl (by omega) ?_
        | refine aw_cond_fp rfl (by omega) ?_
        | refine aw_cond1 rfl (fun h1 => ?_) (fun h1 => ?_)
        | refine aw_cond rfl (fun h1 => ?_) (fun h1 => ?_)
        | refine aw_skip ?_
        | refine aw_exit ?_
        | refine aw_ret ?_
        | refine pp_ret ?_
        | refine pp_normal ?_
      all_goals first
        | rfl
        | (exfalso; omega)
        | (exfalso; simp only [Bool.not_eq_true', Bool.not_eq_false', decide_eq_true_eq, decide_eq_false_iff_not, Bool.not_false, Bool.not_true] at *; omega)
        | (exfalso; simp_all; first | done | omega)
    · refine acalls_law Try.func22 rfl rfl rfl ?_
      repeat' first
        | refine st ?_
        | refine stRW [0] HA ?_
        | refine stRW [0] HT ?_
        | refine sdRW [0] HA ?_
        | refine sdRW [0] HT ?_
        | refine stm ?_
        | refine run_want rfl rfl ?_
        | refine run_unwant rfl rfl ?_
        | refine run_undef rfl rfl ?_
        | refine run_guard1t rfl rfl (by omega) ?_
        | refine run_guard1f rfl rfl (by omega) ?_
        | refine run_guard0t rfl rfl (by omega) ?_
        | refine run_guard0f rfl rfl (by omega) ?_
        | refine run_guard1 rfl rfl (fun h1 => ?_) (fun h1 => ?_)
        | refine run_guard0 rfl rfl (fun h1 => ?_) (fun h1 => ?_)
        | refine run_guard rfl rfl (fun h1 => ?_) (fun h1 => ?_)
        | refine run_nil ?_
        | refine aw_seq ?_
        | refine aw_region (by kernel_rfl) (Nat.le_of_ble_eq_true rfl) ?_
        | refine aw_block ?_
        | refine aw_cond_t rfl ?_
        | refine aw_cond_f rfl ?_
        | refine aw_cond_tp rfl (by omega) ?_
        | refine aw_cond_fp rfl (by omega) ?_
        | refine aw_cond1 rfl (fun h1 => ?_) (fun h1 => ?_)
        | refine aw_cond rfl (fun h1 => ?_) (fun h1 => ?_)
        | refine aw_skip ?_
        | refine aw_exit ?_
        | refine aw_ret ?_
        | refine pp_ret ?_
        | refine pp_normal ?_
      all_goals first
        | rfl
        | (exfalso; omega)
        | (exfalso; simp only [Bool.not_eq_true', Bool.not_eq_false', decide_eq_true_eq, decide_eq_false_iff_not, Bool.not_false, Bool.not_true] at *; omega)
        | (exfalso; simp_all; first | done | omega)
  | some c =>
    obtain ⟨sl, of, k, sd_, pe, fl, u⟩ := c
    have HA : ACalls Try.prog 54 [.agg #[.int .i64 node, .int .i64 len, .slice (some ⟨0, 0, none⟩) n n], .int .i64 s] [some ⟨C.flatMap tcC, false, 6⟩] (.tuple #[.agg #[.int .i64 sl, .int .i64 of, .int .i64 k, .bool sd_, .int .i64 pe, .int .i64 fl], .bool true]) [none] := ac_at node len C n hn hb s (some (sl, of, k, sd_, pe, fl, u)) ho
    dsimp only at hx
    cases z
    · obtain rfl : x = false := hx.symm
      refine acalls_law Try.func22 rfl rfl rfl ?_
      repeat' first
        | refine st ?_
        | refine stRW [0] HA ?_
        | refine stRW [0] HT ?_
        | refine sdRW [0] HA ?_
        | refine sdRW [0] HT ?_
        | refine stm ?_
        | refine run_want rfl rfl ?_
        | refine run_unwant rfl rfl ?_
        | refine run_undef rfl rfl ?_
        | refine run_guard1t rfl rfl (by omega) ?_
        | refine run_guard1f rfl rfl (by omega) ?_
        | refine run_guard0t rfl rfl (by omega) ?_
        | refine run_guard0f rfl rfl (by omega) ?_
        | refine run_guard1 rfl rfl (fun h1 => ?_) (fun h1 => ?_)
        | refine run_guard0 rfl rfl (fun h1 => ?_) (fun h1 => ?_)
        | refine run_guard rfl rfl (fun h1 => ?_) (fun h1 => ?_)
        | refine run_nil ?_
        | refine aw_seq ?_
        | refine aw_region (by kernel_rfl) (Nat.le_of_ble_eq_true rfl) ?_
        | refine aw_block ?_
        | refine aw_cond_t rfl ?_
        | refine aw_cond_f rfl ?_
        | refine aw_cond_tp rfl (by omega) ?_
        | refine aw_cond_fp rfl (by omega) ?_
        | refine aw_cond1 rfl (fun h1 => ?_) (fun h1 => ?_)
        | refine aw_cond rfl (fun h1 => ?_) (fun h1 => ?_)
        | refine aw_skip ?_
        | refine aw_exit ?_
        | refine aw_ret ?_
        | refine pp_ret ?_
        | refine pp_normal ?_
      all_goals first
        | rfl
        | (exfalso; omega)
        | (exfalso; simp only [Bool.not_eq_true', Bool.not_eq_false', decide_eq_true_eq, decide_eq_false_iff_not, Bool.not_false, Bool.not_true] at *; omega)
        | (exfalso; simp_all; first | done | omega)
    · obtain ⟨hc, ht, hs0⟩ := turnR_true hp
      have hnode := (chkT_0 hc).1
      by_cases h3 : k = 3
      · subst h3
        simp only [decide_true, Bool.true_and] at hx
        subst hx
        refine acalls_law Try.func22 rfl rfl rfl ?_
        repeat' first
          | refine st ?_
          | refine stRW [0] HA ?_
          | refine stRW [0] HT ?_
          | refine sdRW [0] HA ?_
          | refine sdRW [0] HT ?_
          | refine stm ?_
          | refine run_want rfl rfl ?_
          | refine run_unwant rfl rfl ?_
          | refine run_undef rfl rfl ?_
          | refine run_guard1t rfl rfl (by omega) ?_
          | refine run_guard1f rfl rfl (by omega) ?_
          | refine run_guard0t rfl rfl (by omega) ?_
          | refine run_guard0f rfl rfl (by omega) ?_
          | refine run_guard1 rfl rfl (fun h1 => ?_) (fun h1 => ?_)
          | refine run_guard0 rfl rfl (fun h1 => ?_) (fun h1 => ?_)
          | refine run_guard rfl rfl (fun h1 => ?_) (fun h1 => ?_)
          | refine run_nil ?_
          | refine aw_seq ?_
          | refine aw_region (by kernel_rfl) (Nat.le_of_ble_eq_true rfl) ?_
          | refine aw_block ?_
          | refine aw_cond_t rfl ?_
          | refine aw_cond_f rfl ?_
          | refine aw_cond_tp rfl (by omega) ?_
          | refine aw_cond_fp rfl (by omega) ?_
          | refine aw_cond1 rfl (fun h1 => ?_) (fun h1 => ?_)
          | refine aw_cond rfl (fun h1 => ?_) (fun h1 => ?_)
          | refine aw_skip ?_
          | refine aw_exit ?_
          | refine aw_ret ?_
          | refine pp_ret ?_
          | refine pp_normal ?_
        all_goals first
          | rfl
          | (exfalso; omega)
          | (exfalso; simp only [Bool.not_eq_true', Bool.not_eq_false', decide_eq_true_eq, decide_eq_false_iff_not, Bool.not_false, Bool.not_true] at *; omega)
          | (exfalso; simp_all; first | done | omega)
      · rw [decide_eq_false h3, Bool.false_and, Bool.and_false] at hx
        obtain rfl : x = false := hx.symm
        refine acalls_law Try.func22 rfl rfl rfl ?_
        repeat' first
          | refine st ?_
          | refine stRW [0] HA ?_
          | refine stRW [0] HT ?_
          | refine sdRW [0] HA ?_
          | refine sdRW [0] HT ?_
          | refine stm ?_
          | refine run_want rfl rfl ?_
          | refine run_unwant rfl rfl ?_
          | refine run_undef rfl rfl ?_
          | refine run_guard1t rfl rfl (by omega) ?_
          | refine run_guard1f rfl rfl (by omega) ?_
          | refine run_guard0t rfl rfl (by omega) ?_
          | refine run_guard0f rfl rfl (by omega) ?_
          | refine run_guard1 rfl rfl (fun h1 => ?_) (fun h1 => ?_)
          | refine run_guard0 rfl rfl (fun h1 => ?_) (fun h1 => ?_)
          | refine run_guard rfl rfl (fun h1 => ?_) (fun h1 => ?_)
          | refine run_nil ?_
          | refine aw_seq ?_
          | refine aw_region (by kernel_rfl) (Nat.le_of_ble_eq_true rfl) ?_
          | refine aw_block ?_
          | refine aw_cond_t rfl ?_
          | refine aw_cond_f rfl ?_
          | refine aw_cond_tp rfl (by omega) ?_
          | refine aw_cond_fp rfl (by omega) ?_
          | refine aw_cond1 rfl (fun h1 => ?_) (fun h1 => ?_)
          | refine aw_cond rfl (fun h1 => ?_) (fun h1 => ?_)
          | refine aw_skip ?_
          | refine aw_exit ?_
          | refine aw_ret ?_
          | refine pp_ret ?_
          | refine pp_normal ?_
        all_goals first
          | rfl
          | (exfalso; omega)
          | (exfalso; simp only [Bool.not_eq_true', Bool.not_eq_false', decide_eq_true_eq, decide_eq_false_iff_not, Bool.not_false, Bool.not_true] at *; omega)
          | (exfalso; simp_all; first | done | omega)
end Go.Proofs.Ytfabgdignlfihaa
