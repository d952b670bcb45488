/- Messages compared. -/
import Derived.Test.YtjamfmnlhiolkaaH3
set_option linter.unusedVariables false
set_option linter.unusedSimpArgs false
namespace Go.Proofs.Ytjamfmnlhiolkaa
open Go Av
set_option maxRecDepth 20000
/-- Two messages are the same. -/
def sameM (m m' : MsgT) : Bool := decide (m.1 = m'.1) && (decide (m.2.1 = m'.2.1) && (decide (m.2.2.1 = m'.2.2.1) && (decide (m.2.2.2.1 = m'.2.2.2.1) && (decide (m.2.2.2.2.1 = m'.2.2.2.2.1) && (decide (m.2.2.2.2.2.1 = m'.2.2.2.2.2.1) && decide (m.2.2.2.2.2.2 = m'.2.2.2.2.2.2))))))
theorem sameM_iff {m m' : MsgT} : sameM m m' = true ↔ m = m' := by
  obtain ⟨a1, a2, a3, a4, a5, a6, a7⟩ := m
  obtain ⟨b1, b2, b3, b4, b5, b6, b7⟩ := m'
  simp only [sameM, Bool.and_eq_true, decide_eq_true_eq, Prod.mk.injEq]
theorem ac_few (k n c cnt : Int) (r : Bool) (s o : Nat) : ACalls Try.prog 12 [.agg #[.int .i64 k, .bool r, .int .i64 n, .int .i64 c, .int .i64 cnt, .slice (some ⟨0, 0, none⟩) s s, .slice (some ⟨1, 0, none⟩) o o]] [none, none] (.bool (decide (s ≤ 12 ∧ o ≤ 12))) [none, none] := by
  refine acalls_law Try.func12 rfl rfl rfl ?_
  repeat' first
    | refine st ?_
    | refine stm ?_
    | refine run_want rfl rfl ?_
    | refine run_unwant rfl rfl ?_
    | refine run_undef rfl rfl ?_
    | refine run_guard1t rfl rfl (by omega) ?_
    | refine run_guard1f rfl rfl (by omega) ?_
    | refine run_guard0t rfl rfl (by omega) ?_
    | refine run_guard0f rfl rfl (by omega) ?_
    | refine run_guard1 rfl rfl (fun h1 => ?_) (fun h1 => ?_)
    | refine run_guard0 rfl rfl (fun h1 => ?_) (fun h1 => ?_)
    | refine run_guard rfl rfl (fun h1 => ?_) (fun h1 => ?_)
    | refine run_nil ?_
    | refine aw_seq ?_
    | refine aw_region (by kernel_rfl) (Nat.le_of_ble_eq_true rfl) ?_
    | refine aw_block ?_
    | refine aw_cond_t rfl ?_
    | refine aw_cond_f rfl ?_
    | refine aw_cond_tp rfl (by omega) ?_
    | refine aw_cond_fp rfl (by omega) ?_
    | refine aw_cond1 rfl (fun h1 => ?_) (fun h1 => ?_)
    | refine aw_cond rfl (fun h1 => ?_) (fun h1 => ?_)
    | refine aw_skip ?_
    | refine aw_exit ?_
    | refine aw_ret ?_
    | refine pp_ret ?_
    | refine pp_normal ?_
  all_goals first
    | rfl
    | (exfalso; omega)
    | (show Value.bool _ = Value.bool _; congr 1; first | exact (decide_eq_false (by omega)).symm | exact (decide_eq_true (by omega)).symm | exact decide_eq_decide.2 (by omega))
set_option maxHeartbeats 4000000 in
theorem ac_same (k n c cnt k' n' c' cnt' : Int) (r r' : Bool) (S O S' O' : List Sp) (s o s' o' : Nat) (hs : S.length = s) (ho : O.length = o) (hs' : S'.length = s') (ho' : O'.length = o') (bs : s ≤ 9000000000000000000) (bo : o ≤ 9000000000000000000) (bs' : s' ≤ 9000000000000000000) (bo' : o' ≤ 9000000000000000000) (x : Bool) (hx : sameM (k, r, n, c, cnt, S, O) (k', r', n', c', cnt', S', O') = x) : ACalls Try.prog 23 [.agg #[.int .i64 k, .bool r, .int .i64 n, .int .i64 c, .int .i64 cnt, .slice (some ⟨0, 0, none⟩) s s, .slice (some ⟨1, 0, none⟩) o o], .agg #[.int .i64 k', .bool r', .int .i64 n', .int .i64 c', .int .i64 cnt', .slice (some ⟨2, 0, none⟩) s' s', .slice (some ⟨3, 0, none⟩) o' o']] [some ⟨S.flatMap spC, false, 2⟩, some ⟨O.flatMap spC, false, 2⟩, some ⟨S'.flatMap spC, false, 2⟩, some ⟨O'.flatMap spC, false, 2⟩] (.bool x) [none, none, none, none] := by
  obtain ⟨x1, h1⟩ : ∃ x1, decide (S = S') = x1 := ⟨_, rfl⟩
  obtain ⟨x2, h2⟩ : ∃ x2, decide (O = O') = x2 := ⟨_, rfl⟩
  have HS := ac_sameSpots S S' s s' hs hs' bs bs' x1 h1
  have HO := ac_sameSpots O O' o o' ho ho' bo bo' x2 h2
  have hx' : x = (decide (k = k') && (decide (r = r') && (decide (n = n') && (decide (c = c') && (decide (cnt = cnt') && (x1 && x2)))))) := by
    rw [← hx, ← h1, ← h2]
    rfl
  clear hx h1 h2 hs ho hs' ho'
  refine acalls_law Try.func23 rfl rfl rfl ?_
  repeat' first
    | refine st ?_
    | refine stRW [0, 2] HS ?_
    | refine stRW [1, 3] HO ?_
    | refine stm ?_
    | refine run_want rfl rfl ?_
    | refine run_unwant rfl rfl ?_
    | refine run_undef rfl rfl ?_
    | refine run_guard1t rfl rfl (by omega) ?_
    | refine run_guard1f rfl rfl (by omega) ?_
    | refine run_guard0t rfl rfl (by omega) ?_
    | refine run_guard0f rfl rfl (by omega) ?_
    | refine run_guard1 rfl rfl (fun h1 => ?_) (fun h1 => ?_)
    | refine run_guard0 rfl rfl (fun h1 => ?_) (fun h1 => ?_)
    | refine run_guard rfl rfl (fun h1 => ?_) (fun h1 => ?_)
    | refine run_nil ?_
    | refine aw_seq ?_
    | refine aw_region (by kernel_rfl) (Nat.le_of_ble_eq_true rfl) ?_
    | refine aw_block ?_
    | refine aw_cond_t rfl ?_
    | refine aw_cond_f rfl ?_
    | refine aw_cond_tp rfl (by omega) ?_
    | refine aw_cond_fp rfl (by omega) ?_
    | refine aw_cond1 rfl (fun h1 => ?_) (fun h1 => ?_)
    | refine aw_cond rfl (fun h1 => ?_) (fun h1 => ?_)
    | refine aw_skip ?_
    | refine aw_exit ?_
    | refine aw_ret ?_
    | refine pp_ret ?_
    | refine pp_normal ?_
  all_goals first
    | (exfalso; omega)
    | (show Value.bool _ = Value.bool _; congr 1; rw [hx']; simp_all; done)
    | (exfalso; simp_all; done)
end Go.Proofs.Ytjamfmnlhiolkaa
