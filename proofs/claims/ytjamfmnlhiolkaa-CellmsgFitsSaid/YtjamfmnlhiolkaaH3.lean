/- Lists of places: compared. -/
import Derived.Test.YtjamfmnlhiolkaaH1
set_option linter.unusedVariables false
set_option linter.unusedSimpArgs false
namespace Go.Proofs.Ytjamfmnlhiolkaa
open Go Av
set_option maxRecDepth 20000
set_option maxHeartbeats 2000000 in
theorem ac_has (O : List Sp) (o : Nat) (ho : O.length = o) (hb : o ≤ 9000000000000000000) (a e : Int) (x : Bool) (hx : hasB O (a, e, ()) = x) : ACalls Try.prog 62 [.slice (some ⟨0, 0, none⟩) o o, .agg #[.int .i64 a, .int .i64 e]] [some ⟨O.flatMap spC, false, 2⟩] (.bool x) [none] := by
  refine acalls_law Try.func62 rfl rfl rfl ?_
  repeat' first
    | refine st ?_
    | refine stm ?_
    | refine run_want rfl rfl ?_
    | refine run_unwant rfl rfl ?_
    | refine run_undef rfl rfl ?_
    | refine run_guard1t rfl rfl (by omega) ?_
    | refine run_guard1f rfl rfl (by omega) ?_
    | refine run_guard0t rfl rfl (by omega) ?_
    | refine run_guard0f rfl rfl (by omega) ?_
    | refine run_guard1 rfl rfl (fun h1 => ?_) (fun h1 => ?_)
    | refine run_guard0 rfl rfl (fun h1 => ?_) (fun h1 => ?_)
    | refine run_guard rfl rfl (fun h1 => ?_) (fun h1 => ?_)
    | refine run_nil ?_
    | refine sd ?_
    | refine sdl ?_
    | refine sdm ?_
    | refine sdb ?_
    | refine rund_want rfl rfl ?_
    | refine rund_unwant rfl rfl ?_
    | refine rund_undef rfl rfl ?_
    | refine rund_guard1 rfl rfl (fun h1 => ?_) (fun h1 => ?_)
    | refine rund_guard0 rfl rfl (fun h1 => ?_) (fun h1 => ?_)
    | refine rund_guard rfl rfl (fun h1 => ?_) (fun h1 => ?_)
    | refine rund_nil ?_
    | refine aw_seq ?_
    | refine aw_region (by kernel_rfl) (Nat.le_of_ble_eq_true rfl) ?_
    | refine aw_region_d (id := 4) [0, 0, 3, 7, 0, 31] 6 (by kernel_rfl) (by kernel_rfl) (by kernel_rfl) (Nat.le_of_ble_eq_true rfl) ?_
    | refine aw_block ?_
    | refine aw_cond_t rfl ?_
    | refine aw_cond_f rfl ?_
    | refine aw_cond_tp rfl (by omega) ?_
    | refine aw_cond_fp rfl (by omega) ?_
    | refine aw_cond1 rfl (fun h1 => ?_) (fun h1 => ?_)
    | refine aw_cond rfl (fun h1 => ?_) (fun h1 => ?_)
    | refine aw_skip ?_
    | refine aw_exit ?_
    | refine aw_ret ?_
    | refine pp_ret ?_
    | refine pp_normal ?_
  refine aw_loopg
    (S := fun y : Og => [(0, .slice (some ⟨0, 0, none⟩) o o), (3, .pointer (some ⟨1, 0, none⟩)), (5, .int .i64 y.i)])
    (B := fun _ : Og => [some ⟨O.flatMap spC, false, 2⟩, some ⟨[.int .i64 a, .int .i64 e], true, 1⟩])
    (R := fun y : Og => y.i ≤ o ∧ ∀ j, j < y.i → ∀ q, O[j]? = some q → decide (q = (a, e, ())) = false)
    (μ := fun y : Og => o - y.i) ⟨0⟩ (fitsD [0, 1]) ⟨Nat.zero_le _, fun j hj => absurd hj (Nat.not_lt_zero _)⟩ ?_
  rintro ⟨i⟩ ⟨g1, g2⟩
  dsimp only at *
  by_cases hi : i < o
  · obtain ⟨⟨a', e', u⟩, hq⟩ : ∃ q, O[i]? = some q := ⟨_, List.getElem?_eq_getElem (by omega)⟩
    by_cases heq : a' = a ∧ e' = e
    · obtain ⟨rfl, rfl⟩ := heq
      obtain rfl : x = true := by rw [← hx]; exact has_of hq
      repeat' first
        | refine sdl (h := ok_load_rowsE (f := spC) (cs := [.int .i64 a', .int .i64 e']) (i) (fun _ => rfl) hq rfl rfl rfl rfl (by omega)) ?_
        | refine st ?_
        | refine stm ?_
        | refine run_want rfl rfl ?_
        | refine run_unwant rfl rfl ?_
        | refine run_undef rfl rfl ?_
        | refine run_guard1t rfl rfl (by omega) ?_
        | refine run_guard1f rfl rfl (by omega) ?_
        | refine run_guard0t rfl rfl (by omega) ?_
        | refine run_guard0f rfl rfl (by omega) ?_
        | refine run_guard1 rfl rfl (fun h1 => ?_) (fun h1 => ?_)
        | refine run_guard0 rfl rfl (fun h1 => ?_) (fun h1 => ?_)
        | refine run_guard rfl rfl (fun h1 => ?_) (fun h1 => ?_)
        | refine run_nil ?_
        | refine sd ?_
        | refine sdl ?_
        | refine sdm ?_
        | refine sdb ?_
        | refine rund_want rfl rfl ?_
        | refine rund_unwant rfl rfl ?_
        | refine rund_undef rfl rfl ?_
        | refine rund_guard1 rfl rfl (fun h1 => ?_) (fun h1 => ?_)
        | refine rund_guard0 rfl rfl (fun h1 => ?_) (fun h1 => ?_)
        | refine rund_guard rfl rfl (fun h1 => ?_) (fun h1 => ?_)
        | refine rund_nil ?_
        | refine aw_seq ?_
        | refine aw_region (by kernel_rfl) (Nat.le_of_ble_eq_true rfl) ?_
        | refine aw_region_d (id := 4) [0, 0, 3, 7, 0, 31] 6 (by kernel_rfl) (by kernel_rfl) (by kernel_rfl) (Nat.le_of_ble_eq_true rfl) ?_
        | refine aw_block ?_
        | refine aw_cond_t rfl ?_
        | refine aw_cond_f rfl ?_
        | refine aw_cond_tp rfl (by omega) ?_
        | refine aw_cond_fp rfl (by omega) ?_
        | refine aw_cond1 rfl (fun h1 => ?_) (fun h1 => ?_)
        | refine aw_cond rfl (fun h1 => ?_) (fun h1 => ?_)
        | refine aw_skip ?_
        | refine aw_exit ?_
        | refine aw_ret ?_
        | refine pp_ret ?_
        | refine pp_normal ?_
      all_goals first
        | rfl
        | exact absurd ⟨rfl, rfl, trivial⟩ h1
        | (exfalso; omega)
        | (exfalso; first | (simp_all; done) | (simp_all; omega))
    · have hne : decide (((a', e', u) : Sp) = (a, e, ())) = false := decide_eq_false fun h => heq (by simp only [Prod.mk.injEq] at h; exact ⟨h.1, h.2.1⟩)
      repeat' first
        | refine sdl (h := ok_load_rowsE (f := spC) (cs := [.int .i64 a', .int .i64 e']) (i) (fun _ => rfl) hq rfl rfl rfl rfl (by omega)) ?_
        | refine st ?_
        | refine stm ?_
        | refine run_want rfl rfl ?_
        | refine run_unwant rfl rfl ?_
        | refine run_undef rfl rfl ?_
        | refine run_guard1t rfl rfl (by omega) ?_
        | refine run_guard1f rfl rfl (by omega) ?_
        | refine run_guard0t rfl rfl (by omega) ?_
        | refine run_guard0f rfl rfl (by omega) ?_
        | refine run_guard1 rfl rfl (fun h1 => ?_) (fun h1 => ?_)
        | refine run_guard0 rfl rfl (fun h1 => ?_) (fun h1 => ?_)
        | refine run_guard rfl rfl (fun h1 => ?_) (fun h1 => ?_)
        | refine run_nil ?_
        | refine sd ?_
        | refine sdl ?_
        | refine sdm ?_
        | refine sdb ?_
        | refine rund_want rfl rfl ?_
        | refine rund_unwant rfl rfl ?_
        | refine rund_undef rfl rfl ?_
        | refine rund_guard1 rfl rfl (fun h1 => ?_) (fun h1 => ?_)
        | refine rund_guard0 rfl rfl (fun h1 => ?_) (fun h1 => ?_)
        | refine rund_guard rfl rfl (fun h1 => ?_) (fun h1 => ?_)
        | refine rund_nil ?_
        | refine aw_seq ?_
        | refine aw_region (by kernel_rfl) (Nat.le_of_ble_eq_true rfl) ?_
        | refine aw_region_d (id := 4) [0, 0, 3, 7, 0, 31] 6 (by kernel_rfl) (by kernel_rfl) (by kernel_rfl) (Nat.le_of_ble_eq_true rfl) ?_
        | refine aw_block ?_
        | refine aw_cond_t rfl ?_
        | refine aw_cond_f rfl ?_
        | refine aw_cond_tp rfl (by omega) ?_
        | refine aw_cond_fp rfl (by omega) ?_
        | refine aw_cond1 rfl (fun h1 => ?_) (fun h1 => ?_)
        | refine aw_cond rfl (fun h1 => ?_) (fun h1 => ?_)
        | refine aw_skip ?_
        | refine aw_exit ?_
        | refine aw_ret ?_
        | refine pp_ret ?_
        | refine pp_normal ?_
      all_goals first | exact Exists.intro ⟨i + 1⟩ ⟨fitsD [0, 1], ⟨hi, no_step g2 hq hne⟩, by dsimp only; omega⟩ | (exfalso; omega) | (exfalso; first | (simp_all; done) | (simp_all; omega))
  · obtain rfl : i = o := by omega
    subst ho
    obtain rfl : x = false := by rw [← hx]; exact has_not g2
    repeat' first
      | refine st ?_
      | refine stm ?_
      | refine run_want rfl rfl ?_
      | refine run_unwant rfl rfl ?_
      | refine run_undef rfl rfl ?_
      | refine run_guard1t rfl rfl (by omega) ?_
      | refine run_guard1f rfl rfl (by omega) ?_
      | refine run_guard0t rfl rfl (by omega) ?_
      | refine run_guard0f rfl rfl (by omega) ?_
      | refine run_guard1 rfl rfl (fun h1 => ?_) (fun h1 => ?_)
      | refine run_guard0 rfl rfl (fun h1 => ?_) (fun h1 => ?_)
      | refine run_guard rfl rfl (fun h1 => ?_) (fun h1 => ?_)
      | refine run_nil ?_
      | refine sd ?_
      | refine sdl ?_
      | refine sdm ?_
      | refine sdb ?_
      | refine rund_want rfl rfl ?_
      | refine rund_unwant rfl rfl ?_
      | refine rund_undef rfl rfl ?_
      | refine rund_guard1 rfl rfl (fun h1 => ?_) (fun h1 => ?_)
      | refine rund_guard0 rfl rfl (fun h1 => ?_) (fun h1 => ?_)
      | refine rund_guard rfl rfl (fun h1 => ?_) (fun h1 => ?_)
      | refine rund_nil ?_
      | refine aw_seq ?_
      | refine aw_region (by kernel_rfl) (Nat.le_of_ble_eq_true rfl) ?_
      | refine aw_region_d (id := 4) [0, 0, 3, 7, 0, 31] 6 (by kernel_rfl) (by kernel_rfl) (by kernel_rfl) (Nat.le_of_ble_eq_true rfl) ?_
      | refine aw_block ?_
      | refine aw_cond_t rfl ?_
      | refine aw_cond_f rfl ?_
      | refine aw_cond_tp rfl (by omega) ?_
      | refine aw_cond_fp rfl (by omega) ?_
      | refine aw_cond1 rfl (fun h1 => ?_) (fun h1 => ?_)
      | refine aw_cond rfl (fun h1 => ?_) (fun h1 => ?_)
      | refine aw_skip ?_
      | refine aw_exit ?_
      | refine aw_ret ?_
      | refine pp_ret ?_
      | refine pp_normal ?_
    all_goals first
      | rfl
      | exact absurd ⟨rfl, rfl, trivial⟩ h1
      | (exfalso; omega)
      | (exfalso; first | (simp_all; done) | (simp_all; omega))
set_option maxHeartbeats 2000000 in
theorem ac_ramong (S O : List Sp) (s o : Nat) (hs : S.length = s) (ho : O.length = o) (hc : s ≤ 9000000000000000000) (hb : o ≤ 9000000000000000000) (x : Bool) (hx : amB S O = x) : ACalls Try.prog 41 [.slice (some ⟨0, 0, none⟩) s s, .slice (some ⟨1, 0, none⟩) o o] [some ⟨S.flatMap spC, false, 2⟩, some ⟨O.flatMap spC, false, 2⟩] (.bool x) [none, none] := by
  refine acalls_law Try.func41 rfl rfl rfl ?_
  repeat' first
    | refine st ?_
    | refine stm ?_
    | refine run_want rfl rfl ?_
    | refine run_unwant rfl rfl ?_
    | refine run_undef rfl rfl ?_
    | refine run_guard1t rfl rfl (by omega) ?_
    | refine run_guard1f rfl rfl (by omega) ?_
    | refine run_guard0t rfl rfl (by omega) ?_
    | refine run_guard0f rfl rfl (by omega) ?_
    | refine run_guard1 rfl rfl (fun h1 => ?_) (fun h1 => ?_)
    | refine run_guard0 rfl rfl (fun h1 => ?_) (fun h1 => ?_)
    | refine run_guard rfl rfl (fun h1 => ?_) (fun h1 => ?_)
    | refine run_nil ?_
    | refine aw_seq ?_
    | refine aw_region (by kernel_rfl) (Nat.le_of_ble_eq_true rfl) ?_
    | refine aw_block ?_
    | refine aw_cond_t rfl ?_
    | refine aw_cond_f rfl ?_
    | refine aw_cond_tp rfl (by omega) ?_
    | refine aw_cond_fp rfl (by omega) ?_
    | refine aw_cond1 rfl (fun h1 => ?_) (fun h1 => ?_)
    | refine aw_cond rfl (fun h1 => ?_) (fun h1 => ?_)
    | refine aw_skip ?_
    | refine aw_exit ?_
    | refine aw_ret ?_
    | refine pp_ret ?_
    | refine pp_normal ?_
  refine aw_loopg
    (S := fun y : Og => [(0, .slice (some ⟨0, 0, none⟩) s s), (1, .slice (some ⟨1, 0, none⟩) o o), (5, .int .i64 y.i)])
    (B := fun _ : Og => [some ⟨S.flatMap spC, false, 2⟩, some ⟨O.flatMap spC, false, 2⟩])
    (R := fun y : Og => y.i ≤ s ∧ ∀ j, j < y.i → ∀ q, S[j]? = some q → (!hasB O q) = false)
    (μ := fun y : Og => s - y.i) ⟨0⟩ (fitsD [0, 1]) ⟨Nat.zero_le _, fun j hj => absurd hj (Nat.not_lt_zero _)⟩ ?_
  rintro ⟨i⟩ ⟨g1, g2⟩
  dsimp only at *
  by_cases hi : i < s
  · obtain ⟨⟨a', e', u⟩, hq⟩ : ∃ q, S[i]? = some q := ⟨_, List.getElem?_eq_getElem (by omega)⟩
    obtain ⟨z, hz⟩ : ∃ z, hasB O (a', e', u) = z := ⟨_, rfl⟩
    have H := ac_has O o ho hb a' e' z hz
    cases z
    · obtain rfl : x = false := by rw [← hx]; exact am_not hq hz
      repeat' first
        | refine st (h := ok_load_rowsE (f := spC) (cs := [.int .i64 a', .int .i64 e']) (i) (fun _ => rfl) hq rfl rfl rfl rfl (by omega)) ?_
        | refine st ?_
        | refine stRW [1] H ?_
        | refine stm ?_
        | refine run_want rfl rfl ?_
        | refine run_unwant rfl rfl ?_
        | refine run_undef rfl rfl ?_
        | refine run_guard1t rfl rfl (by omega) ?_
        | refine run_guard1f rfl rfl (by omega) ?_
        | refine run_guard0t rfl rfl (by omega) ?_
        | refine run_guard0f rfl rfl (by omega) ?_
        | refine run_guard1 rfl rfl (fun h1 => ?_) (fun h1 => ?_)
        | refine run_guard0 rfl rfl (fun h1 => ?_) (fun h1 => ?_)
        | refine run_guard rfl rfl (fun h1 => ?_) (fun h1 => ?_)
        | refine run_nil ?_
        | refine aw_seq ?_
        | refine aw_region (by kernel_rfl) (Nat.le_of_ble_eq_true rfl) ?_
        | refine aw_block ?_
        | refine aw_cond_t rfl ?_
        | refine aw_cond_f rfl ?_
        | refine aw_cond_tp rfl (by omega) ?_
        | refine aw_cond_fp rfl (by omega) ?_
        | refine aw_cond1 rfl (fun h1 => ?_) (fun h1 => ?_)
        | refine aw_cond rfl (fun h1 => ?_) (fun h1 => ?_)
        | refine aw_skip ?_
        | refine aw_exit ?_
        | refine aw_ret ?_
        | refine pp_ret ?_
        | refine pp_normal ?_
      all_goals first | rfl | (exfalso; omega)
    · skip
      repeat' first
        | refine st (h := ok_load_rowsE (f := spC) (cs := [.int .i64 a', .int .i64 e']) (i) (fun _ => rfl) hq rfl rfl rfl rfl (by omega)) ?_
        | refine st ?_
        | refine stRW [1] H ?_
        | refine stm ?_
        | refine run_want rfl rfl ?_
        | refine run_unwant rfl rfl ?_
        | refine run_undef rfl rfl ?_
        | refine run_guard1t rfl rfl (by omega) ?_
        | refine run_guard1f rfl rfl (by omega) ?_
        | refine run_guard0t rfl rfl (by omega) ?_
        | refine run_guard0f rfl rfl (by omega) ?_
        | refine run_guard1 rfl rfl (fun h1 => ?_) (fun h1 => ?_)
        | refine run_guard0 rfl rfl (fun h1 => ?_) (fun h1 => ?_)
        | refine run_guard rfl rfl (fun h1 => ?_) (fun h1 => ?_)
        | refine run_nil ?_
        | refine aw_seq ?_
        | refine aw_region (by kernel_rfl) (Nat.le_of_ble_eq_true rfl) ?_
        | refine aw_block ?_
        | refine aw_cond_t rfl ?_
        | refine aw_cond_f rfl ?_
        | refine aw_cond_tp rfl (by omega) ?_
        | refine aw_cond_fp rfl (by omega) ?_
        | refine aw_cond1 rfl (fun h1 => ?_) (fun h1 => ?_)
        | refine aw_cond rfl (fun h1 => ?_) (fun h1 => ?_)
        | refine aw_skip ?_
        | refine aw_exit ?_
        | refine aw_ret ?_
        | refine pp_ret ?_
        | refine pp_normal ?_
      all_goals first | exact Exists.intro ⟨i + 1⟩ ⟨fitsD [0, 1], ⟨hi, no_step g2 hq (by rw [hz]; rfl)⟩, by dsimp only; omega⟩ | (exfalso; omega)
  · obtain rfl : i = s := by omega
    subst hs
    obtain rfl : x = true := by rw [← hx]; exact am_of g2
    repeat' first
      | refine st ?_
      | refine stm ?_
      | refine run_want rfl rfl ?_
      | refine run_unwant rfl rfl ?_
      | refine run_undef rfl rfl ?_
      | refine run_guard1t rfl rfl (by omega) ?_
      | refine run_guard1f rfl rfl (by omega) ?_
      | refine run_guard0t rfl rfl (by omega) ?_
      | refine run_guard0f rfl rfl (by omega) ?_
      | refine run_guard1 rfl rfl (fun h1 => ?_) (fun h1 => ?_)
      | refine run_guard0 rfl rfl (fun h1 => ?_) (fun h1 => ?_)
      | refine run_guard rfl rfl (fun h1 => ?_) (fun h1 => ?_)
      | refine run_nil ?_
      | refine aw_seq ?_
      | refine aw_region (by kernel_rfl) (Nat.le_of_ble_eq_true rfl) ?_
      | refine aw_block ?_
      | refine aw_cond_t rfl ?_
      | refine aw_cond_f rfl ?_
      | refine aw_cond_tp rfl (by omega) ?_
      | refine aw_cond_fp rfl (by omega) ?_
      | refine aw_cond1 rfl (fun h1 => ?_) (fun h1 => ?_)
      | refine aw_cond rfl (fun h1 => ?_) (fun h1 => ?_)
      | refine aw_skip ?_
      | refine aw_exit ?_
      | refine aw_ret ?_
      | refine pp_ret ?_
      | refine pp_normal ?_
    all_goals first | rfl | (exfalso; omega)
set_option maxHeartbeats 2000000 in
theorem ac_sameUpTo (S O : List Sp) (s o : Nat) (hs : S.length = s) (ho : O.length = o) (hso : s = o) (hc : s ≤ 9000000000000000000) (x : Bool) (hx : decide (S = O) = x) : ACalls Try.prog 63 [.slice (some ⟨0, 0, none⟩) s s, .slice (some ⟨1, 0, none⟩) o o] [some ⟨S.flatMap spC, false, 2⟩, some ⟨O.flatMap spC, false, 2⟩] (.bool x) [none, none] := by
  refine acalls_law Try.func63 rfl rfl rfl ?_
  repeat' first
    | refine st ?_
    | refine stm ?_
    | refine run_want rfl rfl ?_
    | refine run_unwant rfl rfl ?_
    | refine run_undef rfl rfl ?_
    | refine run_guard1t rfl rfl (by omega) ?_
    | refine run_guard1f rfl rfl (by omega) ?_
    | refine run_guard0t rfl rfl (by omega) ?_
    | refine run_guard0f rfl rfl (by omega) ?_
    | refine run_guard1 rfl rfl (fun h1 => ?_) (fun h1 => ?_)
    | refine run_guard0 rfl rfl (fun h1 => ?_) (fun h1 => ?_)
    | refine run_guard rfl rfl (fun h1 => ?_) (fun h1 => ?_)
    | refine run_nil ?_
    | refine sd ?_
    | refine sdl ?_
    | refine sdm ?_
    | refine sdb ?_
    | refine rund_want rfl rfl ?_
    | refine rund_unwant rfl rfl ?_
    | refine rund_undef rfl rfl ?_
    | refine rund_guard1 rfl rfl (fun h1 => ?_) (fun h1 => ?_)
    | refine rund_guard0 rfl rfl (fun h1 => ?_) (fun h1 => ?_)
    | refine rund_guard rfl rfl (fun h1 => ?_) (fun h1 => ?_)
    | refine rund_nil ?_
    | refine aw_seq ?_
    | refine aw_region (by kernel_rfl) (Nat.le_of_ble_eq_true rfl) ?_
    | refine aw_region_d (id := 4) [0, 0, 3, 7, 0, 0, 48, 112, 255] 9 (by kernel_rfl) (by kernel_rfl) (by kernel_rfl) (Nat.le_of_ble_eq_true rfl) ?_
    | refine aw_block ?_
    | refine aw_cond_t rfl ?_
    | refine aw_cond_f rfl ?_
    | refine aw_cond_tp rfl (by omega) ?_
    | refine aw_cond_fp rfl (by omega) ?_
    | refine aw_cond1 rfl (fun h1 => ?_) (fun h1 => ?_)
    | refine aw_cond rfl (fun h1 => ?_) (fun h1 => ?_)
    | refine aw_skip ?_
    | refine aw_exit ?_
    | refine aw_ret ?_
    | refine pp_ret ?_
    | refine pp_normal ?_
  refine aw_loopg
    (S := fun y : Og => [(0, .slice (some ⟨0, 0, none⟩) s s), (1, .slice (some ⟨1, 0, none⟩) o o), (5, .int .i64 y.i)])
    (B := fun _ : Og => [some ⟨S.flatMap spC, false, 2⟩, some ⟨O.flatMap spC, false, 2⟩])
    (R := fun y : Og => y.i ≤ s ∧ ∀ j, j < y.i → ∀ q, S[j]? = some q → decide (O[j]? ≠ some q) = false)
    (μ := fun y : Og => s - y.i) ⟨0⟩ (fitsD [0, 1]) ⟨Nat.zero_le _, fun j hj => absurd hj (Nat.not_lt_zero _)⟩ ?_
  rintro ⟨i⟩ ⟨g1, g2⟩
  dsimp only at *
  by_cases hi : i < s
  · obtain ⟨⟨a, e, u⟩, hq⟩ : ∃ q, S[i]? = some q := ⟨_, List.getElem?_eq_getElem (by omega)⟩
    obtain ⟨⟨a', e', u'⟩, hp⟩ : ∃ q, O[i]? = some q := ⟨_, List.getElem?_eq_getElem (by omega)⟩
    by_cases heq : a = a' ∧ e = e'
    · obtain ⟨rfl, rfl⟩ := heq
      have hst : ∀ j, j < i + 1 → ∀ q, S[j]? = some q → decide (O[j]? ≠ some q) = false := fun j hj y hy => by
        rcases Nat.lt_or_ge j i with h1 | h1
        · exact g2 j h1 y hy
        · obtain rfl : j = i := by omega
          rw [hq] at hy
          cases hy
          exact decide_eq_false fun h => h hp
      repeat' first
        | refine sdl (h := ok_load_rowsE (f := spC) (cs := [.int .i64 a, .int .i64 e]) (i) (fun _ => rfl) hq rfl rfl rfl rfl (by omega)) ?_
        | refine sdl (h := ok_load_rowsE (f := spC) (cs := [.int .i64 a, .int .i64 e]) (i) (fun _ => rfl) hp rfl rfl rfl rfl (by omega)) ?_
        | refine st ?_
        | refine stm ?_
        | refine run_want rfl rfl ?_
        | refine run_unwant rfl rfl ?_
        | refine run_undef rfl rfl ?_
        | refine run_guard1t rfl rfl (by omega) ?_
        | refine run_guard1f rfl rfl (by omega) ?_
        | refine run_guard0t rfl rfl (by omega) ?_
        | refine run_guard0f rfl rfl (by omega) ?_
        | refine run_guard1 rfl rfl (fun h1 => ?_) (fun h1 => ?_)
        | refine run_guard0 rfl rfl (fun h1 => ?_) (fun h1 => ?_)
        | refine run_guard rfl rfl (fun h1 => ?_) (fun h1 => ?_)
        | refine run_nil ?_
        | refine sd ?_
        | refine sdl ?_
        | refine sdm ?_
        | refine sdb ?_
        | refine rund_want rfl rfl ?_
        | refine rund_unwant rfl rfl ?_
        | refine rund_undef rfl rfl ?_
        | refine rund_guard1 rfl rfl (fun h1 => ?_) (fun h1 => ?_)
        | refine rund_guard0 rfl rfl (fun h1 => ?_) (fun h1 => ?_)
        | refine rund_guard rfl rfl (fun h1 => ?_) (fun h1 => ?_)
        | refine rund_nil ?_
        | refine aw_seq ?_
        | refine aw_region (by kernel_rfl) (Nat.le_of_ble_eq_true rfl) ?_
        | refine aw_region_d (id := 4) [0, 0, 3, 7, 0, 0, 48, 112, 255] 9 (by kernel_rfl) (by kernel_rfl) (by kernel_rfl) (Nat.le_of_ble_eq_true rfl) ?_
        | refine aw_block ?_
        | refine aw_cond_t rfl ?_
        | refine aw_cond_f rfl ?_
        | refine aw_cond_tp rfl (by omega) ?_
        | refine aw_cond_fp rfl (by omega) ?_
        | refine aw_cond1 rfl (fun h1 => ?_) (fun h1 => ?_)
        | refine aw_cond rfl (fun h1 => ?_) (fun h1 => ?_)
        | refine aw_skip ?_
        | refine aw_exit ?_
        | refine aw_ret ?_
        | refine pp_ret ?_
        | refine pp_normal ?_
      all_goals first | exact Exists.intro ⟨i + 1⟩ ⟨fitsD [0, 1], ⟨hi, hst⟩, by dsimp only; omega⟩ | exact absurd ⟨rfl, rfl, trivial⟩ h1 | (exfalso; omega) | (exfalso; first | (simp_all; done) | (simp_all; omega))
    · obtain rfl : x = false := by
        rw [← hx]
        refine decide_eq_false fun h => heq ?_
        rw [h, hp] at hq
        simp only [Option.some.injEq, Prod.mk.injEq] at hq
        exact ⟨hq.1.symm, hq.2.1.symm⟩
      repeat' first
        | refine sdl (h := ok_load_rowsE (f := spC) (cs := [.int .i64 a, .int .i64 e]) (i) (fun _ => rfl) hq rfl rfl rfl rfl (by omega)) ?_
        | refine sdl (h := ok_load_rowsE (f := spC) (cs := [.int .i64 a', .int .i64 e']) (i) (fun _ => rfl) hp rfl rfl rfl rfl (by omega)) ?_
        | refine st ?_
        | refine stm ?_
        | refine run_want rfl rfl ?_
        | refine run_unwant rfl rfl ?_
        | refine run_undef rfl rfl ?_
        | refine run_guard1t rfl rfl (by omega) ?_
        | refine run_guard1f rfl rfl (by omega) ?_
        | refine run_guard0t rfl rfl (by omega) ?_
        | refine run_guard0f rfl rfl (by omega) ?_
        | refine run_guard1 rfl rfl (fun h1 => ?_) (fun h1 => ?_)
        | refine run_guard0 rfl rfl (fun h1 => ?_) (fun h1 => ?_)
        | refine run_guard rfl rfl (fun h1 => ?_) (fun h1 => ?_)
        | refine run_nil ?_
        | refine sd ?_
        | refine sdl ?_
        | refine sdm ?_
        | refine sdb ?_
        | refine rund_want rfl rfl ?_
        | refine rund_unwant rfl rfl ?_
        | refine rund_undef rfl rfl ?_
        | refine rund_guard1 rfl rfl (fun h1 => ?_) (fun h1 => ?_)
        | refine rund_guard0 rfl rfl (fun h1 => ?_) (fun h1 => ?_)
        | refine rund_guard rfl rfl (fun h1 => ?_) (fun h1 => ?_)
        | refine rund_nil ?_
        | refine aw_seq ?_
        | refine aw_region (by kernel_rfl) (Nat.le_of_ble_eq_true rfl) ?_
        | refine aw_region_d (id := 4) [0, 0, 3, 7, 0, 0, 48, 112, 255] 9 (by kernel_rfl) (by kernel_rfl) (by kernel_rfl) (Nat.le_of_ble_eq_true rfl) ?_
        | refine aw_block ?_
        | refine aw_cond_t rfl ?_
        | refine aw_cond_f rfl ?_
        | refine aw_cond_tp rfl (by omega) ?_
        | refine aw_cond_fp rfl (by omega) ?_
        | refine aw_cond1 rfl (fun h1 => ?_) (fun h1 => ?_)
        | refine aw_cond rfl (fun h1 => ?_) (fun h1 => ?_)
        | refine aw_skip ?_
        | refine aw_exit ?_
        | refine aw_ret ?_
        | refine pp_ret ?_
        | refine pp_normal ?_
      all_goals first
        | rfl
        | exact absurd ⟨rfl, rfl, trivial⟩ h1
        | (exfalso; omega)
        | (exfalso; first | (simp_all; done) | (simp_all; omega))
  · obtain rfl : i = s := by omega
    obtain rfl : x = true := by
      rw [← hx]
      subst hs
      exact decide_eq_true (eq_of_all (by omega) g2)
    repeat' first
      | refine st ?_
      | refine stm ?_
      | refine run_want rfl rfl ?_
      | refine run_unwant rfl rfl ?_
      | refine run_undef rfl rfl ?_
      | refine run_guard1t rfl rfl (by omega) ?_
      | refine run_guard1f rfl rfl (by omega) ?_
      | refine run_guard0t rfl rfl (by omega) ?_
      | refine run_guard0f rfl rfl (by omega) ?_
      | refine run_guard1 rfl rfl (fun h1 => ?_) (fun h1 => ?_)
      | refine run_guard0 rfl rfl (fun h1 => ?_) (fun h1 => ?_)
      | refine run_guard rfl rfl (fun h1 => ?_) (fun h1 => ?_)
      | refine run_nil ?_
      | refine sd ?_
      | refine sdl ?_
      | refine sdm ?_
      | refine sdb ?_
      | refine rund_want rfl rfl ?_
      | refine rund_unwant rfl rfl ?_
      | refine rund_undef rfl rfl ?_
      | refine rund_guard1 rfl rfl (fun h1 => ?_) (fun h1 => ?_)
      | refine rund_guard0 rfl rfl (fun h1 => ?_) (fun h1 => ?_)
      | refine rund_guard rfl rfl (fun h1 => ?_) (fun h1 => ?_)
      | refine rund_nil ?_
      | refine aw_seq ?_
      | refine aw_region (by kernel_rfl) (Nat.le_of_ble_eq_true rfl) ?_
      | refine aw_region_d (id := 4) [0, 0, 3, 7, 0, 0, 48, 112, 255] 9 (by kernel_rfl) (by kernel_rfl) (by kernel_rfl) (Nat.le_of_ble_eq_true rfl) ?_
      | refine aw_block ?_
      | refine aw_cond_t rfl ?_
      | refine aw_cond_f rfl ?_
      | refine aw_cond_tp rfl (by omega) ?_
      | refine aw_cond_fp rfl (by omega) ?_
      | refine aw_cond1 rfl (fun h1 => ?_) (fun h1 => ?_)
      | refine aw_cond rfl (fun h1 => ?_) (fun h1 => ?_)
      | refine aw_skip ?_
      | refine aw_exit ?_
      | refine aw_ret ?_
      | refine pp_ret ?_
      | refine pp_normal ?_
    all_goals first | rfl | (exfalso; omega)
set_option maxHeartbeats 2000000 in
theorem ac_equal0 (S O : List Sp) (s o : Nat) (hs : S.length = s) (ho : O.length = o) (hso : s = o) (hc : s ≤ 9000000000000000000) (x : Bool) (hx : decide (S = O) = x) : ACalls Try.prog 24 [.slice (some ⟨0, 0, none⟩) s s, .slice (some ⟨1, 0, none⟩) o o] [some ⟨S.flatMap spC, false, 2⟩, some ⟨O.flatMap spC, false, 2⟩] (.bool x) [none, none] := by
  refine acalls_law Try.func24 rfl rfl rfl ?_
  repeat' first
    | refine st ?_
    | refine stm ?_
    | refine run_want rfl rfl ?_
    | refine run_unwant rfl rfl ?_
    | refine run_undef rfl rfl ?_
    | refine run_guard1t rfl rfl (by omega) ?_
    | refine run_guard1f rfl rfl (by omega) ?_
    | refine run_guard0t rfl rfl (by omega) ?_
    | refine run_guard0f rfl rfl (by omega) ?_
    | refine run_guard1 rfl rfl (fun h1 => ?_) (fun h1 => ?_)
    | refine run_guard0 rfl rfl (fun h1 => ?_) (fun h1 => ?_)
    | refine run_guard rfl rfl (fun h1 => ?_) (fun h1 => ?_)
    | refine run_nil ?_
    | refine sd ?_
    | refine sdl ?_
    | refine sdm ?_
    | refine sdb ?_
    | refine rund_want rfl rfl ?_
    | refine rund_unwant rfl rfl ?_
    | refine rund_undef rfl rfl ?_
    | refine rund_guard1 rfl rfl (fun h1 => ?_) (fun h1 => ?_)
    | refine rund_guard0 rfl rfl (fun h1 => ?_) (fun h1 => ?_)
    | refine rund_guard rfl rfl (fun h1 => ?_) (fun h1 => ?_)
    | refine rund_nil ?_
    | refine aw_seq ?_
    | refine aw_region (by kernel_rfl) (Nat.le_of_ble_eq_true rfl) ?_
    | refine aw_region_d (id := 6) [0, 0, 3, 7, 0, 0, 48, 112, 255] 9 (by kernel_rfl) (by kernel_rfl) (by kernel_rfl) (Nat.le_of_ble_eq_true rfl) ?_
    | refine aw_block ?_
    | refine aw_cond_t rfl ?_
    | refine aw_cond_f rfl ?_
    | refine aw_cond_tp rfl (by omega) ?_
    | refine aw_cond_fp rfl (by omega) ?_
    | refine aw_cond1 rfl (fun h1 => ?_) (fun h1 => ?_)
    | refine aw_cond rfl (fun h1 => ?_) (fun h1 => ?_)
    | refine aw_skip ?_
    | refine aw_exit ?_
    | refine aw_ret ?_
    | refine pp_ret ?_
    | refine pp_normal ?_
  refine aw_loopg
    (S := fun y : Og => [(0, .slice (some ⟨0, 0, none⟩) s s), (1, .slice (some ⟨1, 0, none⟩) o o), (12, .int .i64 s), (13, .int .i64 y.i)])
    (B := fun _ : Og => [some ⟨S.flatMap spC, false, 2⟩, some ⟨O.flatMap spC, false, 2⟩])
    (R := fun y : Og => y.i ≤ s ∧ ∀ j, j < y.i → ∀ q, S[j]? = some q → decide (O[j]? ≠ some q) = false)
    (μ := fun y : Og => s - y.i) ⟨0⟩ (fitsD [0, 1]) ⟨Nat.zero_le _, fun j hj => absurd hj (Nat.not_lt_zero _)⟩ ?_
  rintro ⟨i⟩ ⟨g1, g2⟩
  dsimp only at *
  by_cases hi : i < s
  · obtain ⟨⟨a, e, u⟩, hq⟩ : ∃ q, S[i]? = some q := ⟨_, List.getElem?_eq_getElem (by omega)⟩
    obtain ⟨⟨a', e', u'⟩, hp⟩ : ∃ q, O[i]? = some q := ⟨_, List.getElem?_eq_getElem (by omega)⟩
    by_cases heq : a = a' ∧ e = e'
    · obtain ⟨rfl, rfl⟩ := heq
      have hst : ∀ j, j < i + 1 → ∀ q, S[j]? = some q → decide (O[j]? ≠ some q) = false := fun j hj y hy => by
        rcases Nat.lt_or_ge j i with h1 | h1
        · exact g2 j h1 y hy
        · obtain rfl : j = i := by omega
          rw [hq] at hy
          cases hy
          exact decide_eq_false fun h => h hp
      repeat' first
        | refine sdl (h := ok_load_rowsE (f := spC) (cs := [.int .i64 a, .int .i64 e]) (i) (fun _ => rfl) hq rfl rfl rfl rfl (by omega)) ?_
        | refine sdl (h := ok_load_rowsE (f := spC) (cs := [.int .i64 a, .int .i64 e]) (i) (fun _ => rfl) hp rfl rfl rfl rfl (by omega)) ?_
        | refine st ?_
        | refine stm ?_
        | refine run_want rfl rfl ?_
        | refine run_unwant rfl rfl ?_
        | refine run_undef rfl rfl ?_
        | refine run_guard1t rfl rfl (by omega) ?_
        | refine run_guard1f rfl rfl (by omega) ?_
        | refine run_guard0t rfl rfl (by omega) ?_
        | refine run_guard0f rfl rfl (by omega) ?_
        | refine run_guard1 rfl rfl (fun h1 => ?_) (fun h1 => ?_)
        | refine run_guard0 rfl rfl (fun h1 => ?_) (fun h1 => ?_)
        | refine run_guard rfl rfl (fun h1 => ?_) (fun h1 => ?_)
        | refine run_nil ?_
        | refine sd ?_
        | refine sdl ?_
        | refine sdm ?_
        | refine sdb ?_
        | refine rund_want rfl rfl ?_
        | refine rund_unwant rfl rfl ?_
        | refine rund_undef rfl rfl ?_
        | refine rund_guard1 rfl rfl (fun h1 => ?_) (fun h1 => ?_)
        | refine rund_guard0 rfl rfl (fun h1 => ?_) (fun h1 => ?_)
        | refine rund_guard rfl rfl (fun h1 => ?_) (fun h1 => ?_)
        | refine rund_nil ?_
        | refine aw_seq ?_
        | refine aw_region (by kernel_rfl) (Nat.le_of_ble_eq_true rfl) ?_
        | refine aw_region_d (id := 6) [0, 0, 3, 7, 0, 0, 48, 112, 255] 9 (by kernel_rfl) (by kernel_rfl) (by kernel_rfl) (Nat.le_of_ble_eq_true rfl) ?_
        | refine aw_block ?_
        | refine aw_cond_t rfl ?_
        | refine aw_cond_f rfl ?_
        | refine aw_cond_tp rfl (by omega) ?_
        | refine aw_cond_fp rfl (by omega) ?_
        | refine aw_cond1 rfl (fun h1 => ?_) (fun h1 => ?_)
        | refine aw_cond rfl (fun h1 => ?_) (fun h1 => ?_)
        | refine aw_skip ?_
        | refine aw_exit ?_
        | refine aw_ret ?_
        | refine pp_ret ?_
        | refine pp_normal ?_
      all_goals first | exact Exists.intro ⟨i + 1⟩ ⟨fitsD [0, 1], ⟨hi, hst⟩, by dsimp only; omega⟩ | exact absurd ⟨rfl, rfl, trivial⟩ h1 | (exfalso; omega) | (exfalso; first | (simp_all; done) | (simp_all; omega))
    · obtain rfl : x = false := by
        rw [← hx]
        refine decide_eq_false fun h => heq ?_
        rw [h, hp] at hq
        simp only [Option.some.injEq, Prod.mk.injEq] at hq
        exact ⟨hq.1.symm, hq.2.1.symm⟩
      repeat' first
        | refine sdl (h := ok_load_rowsE (f := spC) (cs := [.int .i64 a, .int .i64 e]) (i) (fun _ => rfl) hq rfl rfl rfl rfl (by omega)) ?_
        | refine sdl (h := ok_load_rowsE (f := spC) (cs := [.int .i64 a', .int .i64 e']) (i) (fun _ => rfl) hp rfl rfl rfl rfl (by omega)) ?_
        | refine st ?_
        | refine stm ?_
        | refine run_want rfl rfl ?_
        | refine run_unwant rfl rfl ?_
        | refine run_undef rfl rfl ?_
        | refine run_guard1t rfl rfl (by omega) ?_
        | refine run_guard1f rfl rfl (by omega) ?_
        | refine run_guard0t rfl rfl (by omega) ?_
        | refine run_guard0f rfl rfl (by omega) ?_
        | refine run_guard1 rfl rfl (fun h1 => ?_) (fun h1 => ?_)
        | refine run_guard0 rfl rfl (fun h1 => ?_) (fun h1 => ?_)
        | refine run_guard rfl rfl (fun h1 => ?_) (fun h1 => ?_)
        | refine run_nil ?_
        | refine sd ?_
        | refine sdl ?_
        | refine sdm ?_
        | refine sdb ?_
        | refine rund_want rfl rfl ?_
        | refine rund_unwant rfl rfl ?_
        | refine rund_undef rfl rfl ?_
        | refine rund_guard1 rfl rfl (fun h1 => ?_) (fun h1 => ?_)
        | refine rund_guard0 rfl rfl (fun h1 => ?_) (fun h1 => ?_)
        | refine rund_guard rfl rfl (fun h1 => ?_) (fun h1 => ?_)
        | refine rund_nil ?_
        | refine aw_seq ?_
        | refine aw_region (by kernel_rfl) (Nat.le_of_ble_eq_true rfl) ?_
        | refine aw_region_d (id := 6) [0, 0, 3, 7, 0, 0, 48, 112, 255] 9 (by kernel_rfl) (by kernel_rfl) (by kernel_rfl) (Nat.le_of_ble_eq_true rfl) ?_
        | refine aw_block ?_
        | refine aw_cond_t rfl ?_
        | refine aw_cond_f rfl ?_
        | refine aw_cond_tp rfl (by omega) ?_
        | refine aw_cond_fp rfl (by omega) ?_
        | refine aw_cond1 rfl (fun h1 => ?_) (fun h1 => ?_)
        | refine aw_cond rfl (fun h1 => ?_) (fun h1 => ?_)
        | refine aw_skip ?_
        | refine aw_exit ?_
        | refine aw_ret ?_
        | refine pp_ret ?_
        | refine pp_normal ?_
      all_goals first
        | rfl
        | exact absurd ⟨rfl, rfl, trivial⟩ h1
        | (exfalso; omega)
        | (exfalso; first | (simp_all; done) | (simp_all; omega))
  · obtain rfl : i = s := by omega
    obtain rfl : x = true := by
      rw [← hx]
      subst hs
      exact decide_eq_true (eq_of_all (by omega) g2)
    repeat' first
      | refine st ?_
      | refine stm ?_
      | refine run_want rfl rfl ?_
      | refine run_unwant rfl rfl ?_
      | refine run_undef rfl rfl ?_
      | refine run_guard1t rfl rfl (by omega) ?_
      | refine run_guard1f rfl rfl (by omega) ?_
      | refine run_guard0t rfl rfl (by omega) ?_
      | refine run_guard0f rfl rfl (by omega) ?_
      | refine run_guard1 rfl rfl (fun h1 => ?_) (fun h1 => ?_)
      | refine run_guard0 rfl rfl (fun h1 => ?_) (fun h1 => ?_)
      | refine run_guard rfl rfl (fun h1 => ?_) (fun h1 => ?_)
      | refine run_nil ?_
      | refine sd ?_
      | refine sdl ?_
      | refine sdm ?_
      | refine sdb ?_
      | refine rund_want rfl rfl ?_
      | refine rund_unwant rfl rfl ?_
      | refine rund_undef rfl rfl ?_
      | refine rund_guard1 rfl rfl (fun h1 => ?_) (fun h1 => ?_)
      | refine rund_guard0 rfl rfl (fun h1 => ?_) (fun h1 => ?_)
      | refine rund_guard rfl rfl (fun h1 => ?_) (fun h1 => ?_)
      | refine rund_nil ?_
      | refine aw_seq ?_
      | refine aw_region (by kernel_rfl) (Nat.le_of_ble_eq_true rfl) ?_
      | refine aw_region_d (id := 6) [0, 0, 3, 7, 0, 0, 48, 112, 255] 9 (by kernel_rfl) (by kernel_rfl) (by kernel_rfl) (Nat.le_of_ble_eq_true rfl) ?_
      | refine aw_block ?_
      | refine aw_cond_t rfl ?_
      | refine aw_cond_f rfl ?_
      | refine aw_cond_tp rfl (by omega) ?_
      | refine aw_cond_fp rfl (by omega) ?_
      | refine aw_cond1 rfl (fun h1 => ?_) (fun h1 => ?_)
      | refine aw_cond rfl (fun h1 => ?_) (fun h1 => ?_)
      | refine aw_skip ?_
      | refine aw_exit ?_
      | refine aw_ret ?_
      | refine pp_ret ?_
      | refine pp_normal ?_
    all_goals first | rfl | (exfalso; omega)
theorem ac_equal (S O : List Sp) (s o : Nat) (hs : S.length = s) (ho : O.length = o) (hc : s ≤ 9000000000000000000) (hb : o ≤ 9000000000000000000) (x : Bool) (hx : decide (S = O) = x) : ACalls Try.prog 24 [.slice (some ⟨0, 0, none⟩) s s, .slice (some ⟨1, 0, none⟩) o o] [some ⟨S.flatMap spC, false, 2⟩, some ⟨O.flatMap spC, false, 2⟩] (.bool x) [none, none] := by
  by_cases hso : s = o
  · exact ac_equal0 S O s o hs ho hso hc x hx
  · obtain rfl : x = false := by
      rw [← hx]
      exact decide_eq_false fun h => hso (by rw [← hs, ← ho, h])
    refine acalls_law Try.func24 rfl rfl rfl ?_
    repeat' first
      | refine st ?_
      | refine stm ?_
      | refine run_want rfl rfl ?_
      | refine run_unwant rfl rfl ?_
      | refine run_undef rfl rfl ?_
      | refine run_guard1t rfl rfl (by omega) ?_
      | refine run_guard1f rfl rfl (by omega) ?_
      | refine run_guard0t rfl rfl (by omega) ?_
      | refine run_guard0f rfl rfl (by omega) ?_
      | refine run_guard1 rfl rfl (fun h1 => ?_) (fun h1 => ?_)
      | refine run_guard0 rfl rfl (fun h1 => ?_) (fun h1 => ?_)
      | refine run_guard rfl rfl (fun h1 => ?_) (fun h1 => ?_)
      | refine run_nil ?_
      | refine sd ?_
      | refine sdl ?_
      | refine sdm ?_
      | refine sdb ?_
      | refine rund_want rfl rfl ?_
      | refine rund_unwant rfl rfl ?_
      | refine rund_undef rfl rfl ?_
      | refine rund_guard1 rfl rfl (fun h1 => ?_) (fun h1 => ?_)
      | refine rund_guard0 rfl rfl (fun h1 => ?_) (fun h1 => ?_)
      | refine rund_guard rfl rfl (fun h1 => ?_) (fun h1 => ?_)
      | refine rund_nil ?_
      | refine aw_seq ?_
      | refine aw_region (by kernel_rfl) (Nat.le_of_ble_eq_true rfl) ?_
      | refine aw_region_d (id := 6) [0, 0, 3, 7, 0, 0, 48, 112, 255] 9 (by kernel_rfl) (by kernel_rfl) (by kernel_rfl) (Nat.le_of_ble_eq_true rfl) ?_
      | refine aw_block ?_
      | refine aw_cond_t rfl ?_
      | refine aw_cond_f rfl ?_
      | refine aw_cond_tp rfl (by omega) ?_
      | refine aw_cond_fp rfl (by omega) ?_
      | refine aw_cond1 rfl (fun h1 => ?_) (fun h1 => ?_)
      | refine aw_cond rfl (fun h1 => ?_) (fun h1 => ?_)
      | refine aw_skip ?_
      | refine aw_exit ?_
      | refine aw_ret ?_
      | refine pp_ret ?_
      | refine pp_normal ?_
    all_goals first | rfl | (exfalso; omega)
theorem ac_sameSpots (S O : List Sp) (s o : Nat) (hs : S.length = s) (ho : O.length = o) (hc : s ≤ 9000000000000000000) (hb : o ≤ 9000000000000000000) (x : Bool) (hx : decide (S = O) = x) : ACalls Try.prog 43 [.slice (some ⟨0, 0, none⟩) s s, .slice (some ⟨1, 0, none⟩) o o] [some ⟨S.flatMap spC, false, 2⟩, some ⟨O.flatMap spC, false, 2⟩] (.bool x) [none, none] := by
  by_cases hso : s = o
  · have H := ac_sameUpTo S O s o hs ho hso hc x hx
    refine acalls_law Try.func43 rfl rfl rfl ?_
    repeat' first
      | refine st ?_
      | refine stRW [0, 1] H ?_
      | refine stm ?_
      | refine run_want rfl rfl ?_
      | refine run_unwant rfl rfl ?_
      | refine run_undef rfl rfl ?_
      | refine run_guard1t rfl rfl (by omega) ?_
      | refine run_guard1f rfl rfl (by omega) ?_
      | refine run_guard0t rfl rfl (by omega) ?_
      | refine run_guard0f rfl rfl (by omega) ?_
      | refine run_guard1 rfl rfl (fun h1 => ?_) (fun h1 => ?_)
      | refine run_guard0 rfl rfl (fun h1 => ?_) (fun h1 => ?_)
      | refine run_guard rfl rfl (fun h1 => ?_) (fun h1 => ?_)
      | refine run_nil ?_
      | refine aw_seq ?_
      | refine aw_region (by kernel_rfl) (Nat.le_of_ble_eq_true rfl) ?_
      | refine aw_block ?_
      | refine aw_cond_t rfl ?_
      | refine aw_cond_f rfl ?_
      | refine aw_cond_tp rfl (by omega) ?_
      | refine aw_cond_fp rfl (by omega) ?_
      | refine aw_cond1 rfl (fun h1 => ?_) (fun h1 => ?_)
      | refine aw_cond rfl (fun h1 => ?_) (fun h1 => ?_)
      | refine aw_skip ?_
      | refine aw_exit ?_
      | refine aw_ret ?_
      | refine pp_ret ?_
      | refine pp_normal ?_
    all_goals first | rfl | (exfalso; omega)
  · obtain rfl : x = false := by
      rw [← hx]
      exact decide_eq_false fun h => hso (by rw [← hs, ← ho, h])
    refine acalls_law Try.func43 rfl rfl rfl ?_
    repeat' first
      | refine st ?_
      | refine stm ?_
      | refine run_want rfl rfl ?_
      | refine run_unwant rfl rfl ?_
      | refine run_undef rfl rfl ?_
      | refine run_guard1t rfl rfl (by omega) ?_
      | refine run_guard1f rfl rfl (by omega) ?_
      | refine run_guard0t rfl rfl (by omega) ?_
      | refine run_guard0f rfl rfl (by omega) ?_
      | refine run_guard1 rfl rfl (fun h1 => ?_) (fun h1 => ?_)
      | refine run_guard0 rfl rfl (fun h1 => ?_) (fun h1 => ?_)
      | refine run_guard rfl rfl (fun h1 => ?_) (fun h1 => ?_)
      | refine run_nil ?_
      | refine aw_seq ?_
      | refine aw_region (by kernel_rfl) (Nat.le_of_ble_eq_true rfl) ?_
      | refine aw_block ?_
      | refine aw_cond_t rfl ?_
      | refine aw_cond_f rfl ?_
      | refine aw_cond_tp rfl (by omega) ?_
      | refine aw_cond_fp rfl (by omega) ?_
      | refine aw_cond1 rfl (fun h1 => ?_) (fun h1 => ?_)
      | refine aw_cond rfl (fun h1 => ?_) (fun h1 => ?_)
      | refine aw_skip ?_
      | refine aw_exit ?_
      | refine aw_ret ?_
      | refine pp_ret ?_
      | refine pp_normal ?_
    all_goals first | rfl | (exfalso; omega)
end Go.Proofs.Ytjamfmnlhiolkaa
