/- Messages: Answers. -/
import Derived.Test.YtjamfmnlhiolkaaH2
import Derived.Test.YtjamfmnlhiolkaaH3
set_option linter.unusedVariables false
set_option linter.unusedSimpArgs false
namespace Go.Proofs.Ytjamfmnlhiolkaa
open Go Av
set_option maxRecDepth 20000
/-- What Answers says of a right response with CodeOK. -/
def ansK (k cnt cnt' : Int) (S O S' O' : List Sp) : Bool := if k = 1 then decide (cnt' ≤ cnt) && amB S' S else if k = 3 then decide (cnt' ≤ cnt) && (amB S' S && amB O' O) else if k = 2 then decide (O' = O) else true
/-- The same, of the reference. -/
def ansR (k cnt cnt' : Int) (S O S' O' : List Sp) : Bool := if k = 1 ∨ k = 3 then decide (cnt' ≤ cnt) && (amB S' S && amB O' O) else if k = 2 then decide (O'.length = O.length) && amB O' O else true
/-- Does a response answer a request? -/
def ansB (m m' : MsgT) : Bool := decide (chkM m = 0) && (decide (chkM m' = 0) && (!m.2.1 && (m'.2.1 && (decide (m.1 = m'.1) && (decide (m.2.2.1 = m'.2.2.1) && (decide (m'.2.2.2.1 ≠ 0) || ansK m.1 m.2.2.2.2.1 m'.2.2.2.2.1 m.2.2.2.2.2.1 m.2.2.2.2.2.2 m'.2.2.2.2.2.1 m'.2.2.2.2.2.2))))))
def rnsB (m m' : MsgT) : Bool := decide (chkM m = 0) && (decide (chkM m' = 0) && (!m.2.1 && (m'.2.1 && (decide (m.1 = m'.1) && (decide (m.2.2.1 = m'.2.2.1) && (decide (m'.2.2.2.1 ≠ 0) || ansR m'.1 m.2.2.2.2.1 m'.2.2.2.2.1 m.2.2.2.2.2.1 m.2.2.2.2.2.2 m'.2.2.2.2.2.1 m'.2.2.2.2.2.2))))))
set_option maxHeartbeats 8000000 in
theorem ac_answers (k n c cnt k' n' c' cnt' : Int) (r r' : Bool) (S O S' O' : List Sp) (s o s' o' : Nat) (hs : S.length = s) (ho : O.length = o) (hs' : S'.length = s') (ho' : O'.length = o') (bs : s ≤ 9000000000000000000) (bo : o ≤ 9000000000000000000) (bs' : s' ≤ 9000000000000000000) (bo' : o' ≤ 9000000000000000000) (x : Bool) (hx : ansB (k, r, n, c, cnt, S, O) (k', r', n', c', cnt', S', O') = x) : ACalls Try.prog 17 [.agg #[.int .i64 k, .bool r, .int .i64 n, .int .i64 c, .int .i64 cnt, .slice (some ⟨0, 0, none⟩) s s, .slice (some ⟨1, 0, none⟩) o o], .agg #[.int .i64 k', .bool r', .int .i64 n', .int .i64 c', .int .i64 cnt', .slice (some ⟨2, 0, none⟩) s' s', .slice (some ⟨3, 0, none⟩) o' o']] [some ⟨S.flatMap spC, false, 2⟩, some ⟨O.flatMap spC, false, 2⟩, some ⟨S'.flatMap spC, false, 2⟩, some ⟨O'.flatMap spC, false, 2⟩] (.bool x) [none, none, none, none] := by
  obtain ⟨y1, h1⟩ : ∃ y, chk k n c cnt r S O = y := ⟨_, rfl⟩
  obtain ⟨y2, h2⟩ : ∃ y, chk k' n' c' cnt' r' S' O' = y := ⟨_, rfl⟩
  have H1 := ac_check k n c cnt y1 r S O s o hs ho h1
  have H2 := ac_check k' n' c' cnt' y2 r' S' O' s' o' hs' ho' h2
  obtain ⟨x1, g1⟩ : ∃ x1, amB S' S = x1 := ⟨_, rfl⟩
  obtain ⟨x2, g2⟩ : ∃ x2, amB O' O = x2 := ⟨_, rfl⟩
  have HS := ac_among S' S s' s hs' hs bs' bs x1 g1
  have HO := ac_among O' O o' o ho' ho bo' bo x2 g2
  obtain ⟨x3, g3⟩ : ∃ x3, decide (O' = O) = x3 := ⟨_, rfl⟩
  have HE := ac_equal O' O o' o ho' ho bo' bo x3 g3
  have hx' : x = (decide (y1 = 0) && (decide (y2 = 0) && (!r && (r' && (decide (k = k') && (decide (n = n') && (decide (c' ≠ 0) || (if k = 1 then decide (cnt' ≤ cnt) && x1 else if k = 3 then decide (cnt' ≤ cnt) && (x1 && x2) else if k = 2 then x3 else true)))))))) := by
    rw [← hx, ← h1, ← h2, ← g1, ← g2, ← g3]
    rfl
  clear hx h1 h2 g1 g2 hs' hs ho ho' g3
  cases r <;> cases r'
  · refine acalls_law Try.func17 rfl rfl rfl ?_
    repeat' first
      | refine st ?_
      | refine stRW [0, 1] H1 ?_
      | refine stRW [2, 3] H2 ?_
      | refine stRW [2, 0] HS ?_
      | refine stRW [3, 1] HO ?_
      | refine stRW [3, 1] HE ?_
      | refine stm ?_
      | refine run_want rfl rfl ?_
      | refine run_unwant rfl rfl ?_
      | refine run_undef rfl rfl ?_
      | refine run_guard1t rfl rfl (by omega) ?_
      | refine run_guard1f rfl rfl (by omega) ?_
      | refine run_guard0t rfl rfl (by omega) ?_
      | refine run_guard0f rfl rfl (by omega) ?_
      | refine run_guard1 rfl rfl (fun h1 => ?_) (fun h1 => ?_)
      | refine run_guard0 rfl rfl (fun h1 => ?_) (fun h1 => ?_)
      | refine run_guard rfl rfl (fun h1 => ?_) (fun h1 => ?_)
      | refine run_nil ?_
      | refine aw_seq ?_
      | refine aw_region (by kernel_rfl) (Nat.le_of_ble_eq_true rfl) ?_
      | refine aw_block ?_
      | refine aw_cond_t rfl ?_
      | refine aw_cond_f rfl ?_
      | refine aw_cond_tp rfl (by omega) ?_
      | refine aw_cond_fp rfl (by omega) ?_
      | refine aw_cond1 rfl (fun h1 => ?_) (fun h1 => ?_)
      | refine aw_cond rfl (fun h1 => ?_) (fun h1 => ?_)
      | refine aw_skip ?_
      | refine aw_exit ?_
      | refine aw_ret ?_
      | refine pp_ret ?_
      | refine pp_normal ?_
    all_goals first
      | (exfalso; omega)
      | (show Value.bool _ = Value.bool _; congr 1; rw [hx']; simp_all; done)
      | (exfalso; simp_all; done)
      | (show Value.bool _ = Value.bool _; congr 1; rw [hx', decide_eq_false (show ¬ cnt' ≤ cnt by omega)]; simp_all; done)
      | (subst g3; show Value.bool _ = Value.bool _; congr 1; rw [hx']; simp_all; done)
      | (subst g3; show Value.bool _ = Value.bool _; congr 1; rw [hx', decide_eq_false (show ¬ o' = o by omega)]; simp_all; done)
      | (subst g3; show Value.bool _ = Value.bool _; congr 1; rw [hx', decide_eq_true (show o' = o by omega)]; simp_all; done)
      | (show Value.bool _ = Value.bool _; congr 1; rw [hx']; simp_all; omega)
  · refine acalls_law Try.func17 rfl rfl rfl ?_
    repeat' first
      | refine st ?_
      | refine stRW [0, 1] H1 ?_
      | refine stRW [2, 3] H2 ?_
      | refine stRW [2, 0] HS ?_
      | refine stRW [3, 1] HO ?_
      | refine stRW [3, 1] HE ?_
      | refine stm ?_
      | refine run_want rfl rfl ?_
      | refine run_unwant rfl rfl ?_
      | refine run_undef rfl rfl ?_
      | refine run_guard1t rfl rfl (by omega) ?_
      | refine run_guard1f rfl rfl (by omega) ?_
      | refine run_guard0t rfl rfl (by omega) ?_
      | refine run_guard0f rfl rfl (by omega) ?_
      | refine run_guard1 rfl rfl (fun h1 => ?_) (fun h1 => ?_)
      | refine run_guard0 rfl rfl (fun h1 => ?_) (fun h1 => ?_)
      | refine run_guard rfl rfl (fun h1 => ?_) (fun h1 => ?_)
      | refine run_nil ?_
      | refine aw_seq ?_
      | refine aw_region (by kernel_rfl) (Nat.le_of_ble_eq_true rfl) ?_
      | refine aw_block ?_
      | refine aw_cond_t rfl ?_
      | refine aw_cond_f rfl ?_
      | refine aw_cond_tp rfl (by omega) ?_
      | refine aw_cond_fp rfl (by omega) ?_
      | refine aw_cond1 rfl (fun h1 => ?_) (fun h1 => ?_)
      | refine aw_cond rfl (fun h1 => ?_) (fun h1 => ?_)
      | refine aw_skip ?_
      | refine aw_exit ?_
      | refine aw_ret ?_
      | refine pp_ret ?_
      | refine pp_normal ?_
    all_goals first
      | (exfalso; omega)
      | (show Value.bool _ = Value.bool _; congr 1; rw [hx']; simp_all; done)
      | (exfalso; simp_all; done)
      | (show Value.bool _ = Value.bool _; congr 1; rw [hx', decide_eq_false (show ¬ cnt' ≤ cnt by omega)]; simp_all; done)
      | (subst g3; show Value.bool _ = Value.bool _; congr 1; rw [hx']; simp_all; done)
      | (subst g3; show Value.bool _ = Value.bool _; congr 1; rw [hx', decide_eq_false (show ¬ o' = o by omega)]; simp_all; done)
      | (subst g3; show Value.bool _ = Value.bool _; congr 1; rw [hx', decide_eq_true (show o' = o by omega)]; simp_all; done)
      | (show Value.bool _ = Value.bool _; congr 1; rw [hx']; simp_all; omega)
  · refine acalls_law Try.func17 rfl rfl rfl ?_
    repeat' first
      | refine st ?_
      | refine stRW [0, 1] H1 ?_
      | refine stRW [2, 3] H2 ?_
      | refine stRW [2, 0] HS ?_
      | refine stRW [3, 1] HO ?_
      | refine stRW [3, 1] HE ?_
      | refine stm ?_
      | refine run_want rfl rfl ?_
      | refine run_unwant rfl rfl ?_
      | refine run_undef rfl rfl ?_
      | refine run_guard1t rfl rfl (by omega) ?_
      | refine run_guard1f rfl rfl (by omega) ?_
      | refine run_guard0t rfl rfl (by omega) ?_
      | refine run_guard0f rfl rfl (by omega) ?_
      | refine run_guard1 rfl rfl (fun h1 => ?_) (fun h1 => ?_)
      | refine run_guard0 rfl rfl (fun h1 => ?_) (fun h1 => ?_)
      | refine run_guard rfl rfl (fun h1 => ?_) (fun h1 => ?_)
      | refine run_nil ?_
      | refine aw_seq ?_
      | refine aw_region (by kernel_rfl) (Nat.le_of_ble_eq_true rfl) ?_
      | refine aw_block ?_
      | refine aw_cond_t rfl ?_
      | refine aw_cond_f rfl ?_
      | refine aw_cond_tp rfl (by omega) ?_
      | refine aw_cond_fp rfl (by omega) ?_
      | refine aw_cond1 rfl (fun h1 => ?_) (fun h1 => ?_)
      | refine aw_cond rfl (fun h1 => ?_) (fun h1 => ?_)
      | refine aw_skip ?_
      | refine aw_exit ?_
      | refine aw_ret ?_
      | refine pp_ret ?_
      | refine pp_normal ?_
    all_goals first
      | (exfalso; omega)
      | (show Value.bool _ = Value.bool _; congr 1; rw [hx']; simp_all; done)
      | (exfalso; simp_all; done)
      | (show Value.bool _ = Value.bool _; congr 1; rw [hx', decide_eq_false (show ¬ cnt' ≤ cnt by omega)]; simp_all; done)
      | (subst g3; show Value.bool _ = Value.bool _; congr 1; rw [hx']; simp_all; done)
      | (subst g3; show Value.bool _ = Value.bool _; congr 1; rw [hx', decide_eq_false (show ¬ o' = o by omega)]; simp_all; done)
      | (subst g3; show Value.bool _ = Value.bool _; congr 1; rw [hx', decide_eq_true (show o' = o by omega)]; simp_all; done)
      | (show Value.bool _ = Value.bool _; congr 1; rw [hx']; simp_all; omega)
  · refine acalls_law Try.func17 rfl rfl rfl ?_
    repeat' first
      | refine st ?_
      | refine stRW [0, 1] H1 ?_
      | refine stRW [2, 3] H2 ?_
      | refine stRW [2, 0] HS ?_
      | refine stRW [3, 1] HO ?_
      | refine stRW [3, 1] HE ?_
      | refine stm ?_
      | refine run_want rfl rfl ?_
      | refine run_unwant rfl rfl ?_
      | refine run_undef rfl rfl ?_
      | refine run_guard1t rfl rfl (by omega) ?_
      | refine run_guard1f rfl rfl (by omega) ?_
      | refine run_guard0t rfl rfl (by omega) ?_
      | refine run_guard0f rfl rfl (by omega) ?_
      | refine run_guard1 rfl rfl (fun h1 => ?_) (fun h1 => ?_)
      | refine run_guard0 rfl rfl (fun h1 => ?_) (fun h1 => ?_)
      | refine run_guard rfl rfl (fun h1 => ?_) (fun h1 => ?_)
      | refine run_nil ?_
      | refine aw_seq ?_
      | refine aw_region (by kernel_rfl) (Nat.le_of_ble_eq_true rfl) ?_
      | refine aw_block ?_
      | refine aw_cond_t rfl ?_
      | refine aw_cond_f rfl ?_
      | refine aw_cond_tp rfl (by omega) ?_
      | refine aw_cond_fp rfl (by omega) ?_
      | refine aw_cond1 rfl (fun h1 => ?_) (fun h1 => ?_)
      | refine aw_cond rfl (fun h1 => ?_) (fun h1 => ?_)
      | refine aw_skip ?_
      | refine aw_exit ?_
      | refine aw_ret ?_
      | refine pp_ret ?_
      | refine pp_normal ?_
    all_goals first
      | (exfalso; omega)
      | (show Value.bool _ = Value.bool _; congr 1; rw [hx']; simp_all; done)
      | (exfalso; simp_all; done)
      | (show Value.bool _ = Value.bool _; congr 1; rw [hx', decide_eq_false (show ¬ cnt' ≤ cnt by omega)]; simp_all; done)
      | (subst g3; show Value.bool _ = Value.bool _; congr 1; rw [hx']; simp_all; done)
      | (subst g3; show Value.bool _ = Value.bool _; congr 1; rw [hx', decide_eq_false (show ¬ o' = o by omega)]; simp_all; done)
      | (subst g3; show Value.bool _ = Value.bool _; congr 1; rw [hx', decide_eq_true (show o' = o by omega)]; simp_all; done)
      | (show Value.bool _ = Value.bool _; congr 1; rw [hx']; simp_all; omega)
end Go.Proofs.Ytjamfmnlhiolkaa
