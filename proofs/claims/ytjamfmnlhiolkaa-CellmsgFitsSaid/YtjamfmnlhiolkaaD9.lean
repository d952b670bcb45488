/- Bits: the reference reads unsigned and signed fields and flags. -/
import Derived.Test.YtjamfmnlhiolkaaD8
import Derived.Test.YtjamfmnlhiolkaaD5
import Derived.Test.YtjamfmnlhiolkaaC6
set_option linter.unusedVariables false
set_option linter.unusedSimpArgs false
namespace Go.Proofs.Ytjamfmnlhiolkaa
open Go Av
set_option maxRecDepth 20000
theorem ac_rrgetE (w e : Int) (he : e ≠ 0) : ACalls Try.prog 69 [.pointer (some ⟨0, 0, none⟩), .int .i64 w] [some ⟨[.string ⟨#[]⟩, .int .i64 0, .int .i64 e], true, 1⟩] (.int .i64 0) [some ⟨[.string ⟨#[]⟩, .int .i64 0, .int .i64 e], true, 1⟩] :=
  ac_rrget w e e 0 0 0 ⟨#[]⟩ ⟨#[]⟩ ⟨#[]⟩ 0 0 (by unfold fieldR; rw [if_pos he]) ⟨fun h => absurd h he, fun _ => ⟨rfl, rfl⟩⟩ ⟨fun h => absurd h he, fun _ => ⟨rfl, rfl⟩⟩ (Nat.zero_le _) (by decide) fun h => absurd h he
theorem ac_runsR (w e e' v : Int) (a a' : Nat) (d d2 d2' : ByteArray) (a2 a2' : Int) (hst : unsR d a e w = (v, a', e')) (hr : RR d a e d2 a2) (hr' : RR d a' e' d2' a2') (ha : a ≤ 8 * d.size) (hd : d.size ≤ 1000000) (hw : -9223372036854775808 ≤ w ∧ w ≤ 9223372036854775807) :
    ACalls Try.prog 50 [.pointer (some ⟨0, 0, none⟩), .int .i64 w] [some ⟨[.string d2, .int .i64 a2, .int .i64 e], true, 1⟩] (.int .i64 v) [some ⟨[.string d2', .int .i64 a2', .int .i64 e'], true, 1⟩] := by
  unfold unsR at hst
  by_cases hc : e = 0 ∧ ¬ (1 ≤ w ∧ w ≤ 63)
  · obtain ⟨rfl, hc⟩ := hc
    unfold fieldR at hst
    rw [if_neg (by simp), if_pos (decide_eq_false hc)] at hst
    simp only [Prod.mk.injEq] at hst
    obtain ⟨rfl, rfl, rfl⟩ := hst
    obtain ⟨rfl, rfl⟩ := hr.1 rfl
    obtain ⟨rfl, rfl⟩ := hr'.2 (by decide)
    have HX := ac_rrfail a 0 1 d2
    have HG := ac_rrgetE w 1 (by decide)
    refine acalls_of_aw Try.func50 rfl rfl ?_
    repeat' first
      | refine st ?_
      | refine stMW [0] HX ?_
      | refine stMW [0] HG ?_
      | refine stm ?_
      | refine run_want rfl rfl ?_
      | refine run_unwant rfl rfl ?_
      | refine run_undef rfl rfl ?_
      | refine run_guard1t rfl rfl (by omega) ?_
      | refine run_guard1f rfl rfl (by omega) ?_
      | refine run_guard0t rfl rfl (by omega) ?_
      | refine run_guard0f rfl rfl (by omega) ?_
      | refine run_guard1 rfl rfl (fun h1 => ?_) (fun h1 => ?_)
      | refine run_guard0 rfl rfl (fun h1 => ?_) (fun h1 => ?_)
      | refine run_guard rfl rfl (fun h1 => ?_) (fun h1 => ?_)
      | refine run_nil ?_
      | refine aw_seq ?_
      | refine aw_region (by kernel_rfl) (Nat.le_of_ble_eq_true rfl) ?_
      | refine aw_block ?_
      | refine aw_cond_t rfl ?_
      | refine aw_cond_f rfl ?_
      | refine aw_cond_tp rfl (by omega) ?_
      | refine aw_cond_fp rfl (by omega) ?_
      | refine aw_cond1 rfl (fun h1 => ?_) (fun h1 => ?_)
      | refine aw_cond rfl (fun h1 => ?_) (fun h1 => ?_)
      | refine aw_skip ?_
      | refine aw_exit ?_
      | refine aw_ret ?_
      | refine pp_ret ?_
      | refine pp_normal ?_
    all_goals first | exact pm_ret _ (renumD [0]) rfl | (exfalso; omega)
  · have HG := ac_rrget w e e' v a a' d d2 d2' a2 a2' (by
      rw [← hst]
      by_cases he : e = 0
      · rw [decide_eq_true (show 1 ≤ w ∧ w ≤ 63 by omega)]
      · unfold fieldR; rw [if_pos he, if_pos he]) hr hr' ha hd (by omega)
    by_cases he : e = 0
    · subst he
      refine acalls_of_aw Try.func50 rfl rfl ?_
      repeat' first
        | refine st ?_
        | refine stMW [0] HG ?_
        | refine stm ?_
        | refine run_want rfl rfl ?_
        | refine run_unwant rfl rfl ?_
        | refine run_undef rfl rfl ?_
        | refine run_guard1t rfl rfl (by omega) ?_
        | refine run_guard1f rfl rfl (by omega) ?_
        | refine run_guard0t rfl rfl (by omega) ?_
        | refine run_guard0f rfl rfl (by omega) ?_
        | refine run_guard1 rfl rfl (fun h1 => ?_) (fun h1 => ?_)
        | refine run_guard0 rfl rfl (fun h1 => ?_) (fun h1 => ?_)
        | refine run_guard rfl rfl (fun h1 => ?_) (fun h1 => ?_)
        | refine run_nil ?_
        | refine aw_seq ?_
        | refine aw_region (by kernel_rfl) (Nat.le_of_ble_eq_true rfl) ?_
        | refine aw_block ?_
        | refine aw_cond_t rfl ?_
        | refine aw_cond_f rfl ?_
        | refine aw_cond_tp rfl (by omega) ?_
        | refine aw_cond_fp rfl (by omega) ?_
        | refine aw_cond1 rfl (fun h1 => ?_) (fun h1 => ?_)
        | refine aw_cond rfl (fun h1 => ?_) (fun h1 => ?_)
        | refine aw_skip ?_
        | refine aw_exit ?_
        | refine aw_ret ?_
        | refine pp_ret ?_
        | refine pp_normal ?_
      all_goals first | exact pm_ret _ (renumD [0]) rfl | (exfalso; omega)
    · refine acalls_of_aw Try.func50 rfl rfl ?_
      repeat' first
        | refine st ?_
        | refine stMW [0] HG ?_
        | refine stm ?_
        | refine run_want rfl rfl ?_
        | refine run_unwant rfl rfl ?_
        | refine run_undef rfl rfl ?_
        | refine run_guard1t rfl rfl (by omega) ?_
        | refine run_guard1f rfl rfl (by omega) ?_
        | refine run_guard0t rfl rfl (by omega) ?_
        | refine run_guard0f rfl rfl (by omega) ?_
        | refine run_guard1 rfl rfl (fun h1 => ?_) (fun h1 => ?_)
        | refine run_guard0 rfl rfl (fun h1 => ?_) (fun h1 => ?_)
        | refine run_guard rfl rfl (fun h1 => ?_) (fun h1 => ?_)
        | refine run_nil ?_
        | refine aw_seq ?_
        | refine aw_region (by kernel_rfl) (Nat.le_of_ble_eq_true rfl) ?_
        | refine aw_block ?_
        | refine aw_cond_t rfl ?_
        | refine aw_cond_f rfl ?_
        | refine aw_cond_tp rfl (by omega) ?_
        | refine aw_cond_fp rfl (by omega) ?_
        | refine aw_cond1 rfl (fun h1 => ?_) (fun h1 => ?_)
        | refine aw_cond rfl (fun h1 => ?_) (fun h1 => ?_)
        | refine aw_skip ?_
        | refine aw_exit ?_
        | refine aw_ret ?_
        | refine pp_ret ?_
        | refine pp_normal ?_
      all_goals first | exact pm_ret _ (renumD [0]) rfl | (exfalso; omega)
theorem ac_rflgR (e e' : Int) (v : Bool) (a a' : Nat) (d d2 d2' : ByteArray) (a2 a2' : Int) (hst : flgR d a e = (v, a', e')) (hr : RR d a e d2 a2) (hr' : RR d a' e' d2' a2') (ha : a ≤ 8 * d.size) (hd : d.size ≤ 1000000) :
    ACalls Try.prog 51 [.pointer (some ⟨0, 0, none⟩)] [some ⟨[.string d2, .int .i64 a2, .int .i64 e], true, 1⟩] (.bool v) [some ⟨[.string d2', .int .i64 a2', .int .i64 e'], true, 1⟩] := by
  unfold flgR at hst
  obtain ⟨v1, a1, e1, hf⟩ : ∃ v a1 e1, fieldR d a e true 1 = (v, a1, e1) := ⟨_, _, _, rfl⟩
  rw [hf] at hst
  simp only [Prod.mk.injEq] at hst
  obtain ⟨rfl, rfl, rfl⟩ := hst
  have HG := ac_rrget 1 e e1 v1 a a1 d d2 d2' a2 a2' hf hr hr' ha hd (by omega)
  refine acalls_of_aw Try.func51 rfl rfl ?_
  repeat' first
    | refine st ?_
    | refine stMW [0] HG ?_
    | refine stm ?_
    | refine run_want rfl rfl ?_
    | refine run_unwant rfl rfl ?_
    | refine run_undef rfl rfl ?_
    | refine run_guard1t rfl rfl (by omega) ?_
    | refine run_guard1f rfl rfl (by omega) ?_
    | refine run_guard0t rfl rfl (by omega) ?_
    | refine run_guard0f rfl rfl (by omega) ?_
    | refine run_guard1 rfl rfl (fun h1 => ?_) (fun h1 => ?_)
    | refine run_guard0 rfl rfl (fun h1 => ?_) (fun h1 => ?_)
    | refine run_guard rfl rfl (fun h1 => ?_) (fun h1 => ?_)
    | refine run_nil ?_
    | refine aw_seq ?_
    | refine aw_region (by kernel_rfl) (Nat.le_of_ble_eq_true rfl) ?_
    | refine aw_block ?_
    | refine aw_cond_t rfl ?_
    | refine aw_cond_f rfl ?_
    | refine aw_cond_tp rfl (by omega) ?_
    | refine aw_cond_fp rfl (by omega) ?_
    | refine aw_cond1 rfl (fun h1 => ?_) (fun h1 => ?_)
    | refine aw_cond rfl (fun h1 => ?_) (fun h1 => ?_)
    | refine aw_skip ?_
    | refine aw_exit ?_
    | refine aw_ret ?_
    | refine pp_ret ?_
    | refine pp_normal ?_
  all_goals first | exact pm_ret _ (renumD [0]) rfl | (exfalso; omega)
end Go.Proofs.Ytjamfmnlhiolkaa
