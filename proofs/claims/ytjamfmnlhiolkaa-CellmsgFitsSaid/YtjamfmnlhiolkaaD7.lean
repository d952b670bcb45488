/- Bits: a reader is closed. -/
import Derived.Test.YtjamfmnlhiolkaaD3
import Derived.Test.YtjamfmnlhiolkaaVH
set_option linter.unusedVariables false
set_option linter.unusedSimpArgs false
namespace Go.Proofs.Ytjamfmnlhiolkaa
open Go Av
set_option maxRecDepth 20000
/-- What a reader's Close returns. -/
def closeR (d : ByteArray) (a : Nat) (e : Int) : Int := if e ≠ 0 then e else if 8 ≤ 8 * d.size - a ∨ rdN d a (8 * d.size - a) ≠ 0 then 10 else 0
theorem ac_close1 (a : Nat) (d : ByteArray) (ha : a ≤ 8 * d.size) (hlt : 8 * d.size - a < 8) (hd : d.size ≤ 1000000) : ACalls Try.prog 65 [.pointer (some ⟨0, 0, none⟩)] [some ⟨[.pointer (some ⟨1, 0, none⟩)], false, 1⟩, some ⟨[.string d, .int .i64 (a : Int), .int .i64 0], false, 1⟩] (.bool (decide (¬ rdN d a (8 * d.size - a) = 0))) [none, none] := by
  have HL := ac_left a d (by omega) hd
  have HG := ac_get (8 * d.size - a) a d 0 (by omega) (by omega) hd
  rw [show ((8 * d.size - a : Nat) : Int) = 8 * (d.size : Int) - a by omega] at HG
  refine acalls_law Try.func65 rfl rfl rfl ?_
  repeat' first
    | refine st ?_
    | refine stRW [1] HL ?_
    | refine stMW [2] HG ?_
    | refine stm ?_
    | refine run_want rfl rfl ?_
    | refine run_unwant rfl rfl ?_
    | refine run_undef rfl rfl ?_
    | refine run_guard1t rfl rfl (by omega) ?_
    | refine run_guard1f rfl rfl (by omega) ?_
    | refine run_guard0t rfl rfl (by omega) ?_
    | refine run_guard0f rfl rfl (by omega) ?_
    | refine run_guard1 rfl rfl (fun h1 => ?_) (fun h1 => ?_)
    | refine run_guard0 rfl rfl (fun h1 => ?_) (fun h1 => ?_)
    | refine run_guard rfl rfl (fun h1 => ?_) (fun h1 => ?_)
    | refine run_nil ?_
    | refine aw_seq ?_
    | refine aw_region (by kernel_rfl) (Nat.le_of_ble_eq_true rfl) ?_
    | refine aw_block ?_
    | refine aw_cond_t rfl ?_
    | refine aw_cond_f rfl ?_
    | refine aw_cond_tp rfl (by omega) ?_
    | refine aw_cond_fp rfl (by omega) ?_
    | refine aw_cond1 rfl (fun h1 => ?_) (fun h1 => ?_)
    | refine aw_cond rfl (fun h1 => ?_) (fun h1 => ?_)
    | refine aw_skip ?_
    | refine aw_exit ?_
    | refine aw_ret ?_
    | refine pp_ret ?_
    | refine pp_normal ?_
  all_goals first | rfl | (exfalso; omega)
theorem ac_closeR (e c : Int) (a : Nat) (d : ByteArray) (hst : closeR d a e = c) (ha : a ≤ 8 * d.size) (hd : d.size ≤ 1000000) : ACalls Try.prog 48 [.pointer (some ⟨0, 0, none⟩)] [some ⟨[.string d, .int .i64 (a : Int), .int .i64 e], false, 1⟩] (.int .i64 c) [none] := by
  unfold closeR at hst
  by_cases he : e = 0
  · subst he
    rw [if_neg (by simp)] at hst
    have HL := ac_left a d (by omega) hd
    by_cases h8 : 8 ≤ 8 * d.size - a
    · rw [if_pos (.inl h8)] at hst
      subst hst
      refine acalls_law Try.func48 rfl rfl rfl ?_
      repeat' first
        | refine st ?_
        | refine stRW [0] HL ?_
        | refine st (h := ok_makeFunc (by ((repeat (apply ArgsR.cons; rfl)); exact ArgsR.nil)) (by ((repeat (apply ArgsR.cons; rfl)); exact ArgsR.nil))) ?_
        | refine stm ?_
        | refine run_want rfl rfl ?_
        | refine run_unwant rfl rfl ?_
        | refine run_undef rfl rfl ?_
        | refine run_guard1t rfl rfl (by omega) ?_
        | refine run_guard1f rfl rfl (by omega) ?_
        | refine run_guard0t rfl rfl (by omega) ?_
        | refine run_guard0f rfl rfl (by omega) ?_
        | refine run_guard1 rfl rfl (fun h1 => ?_) (fun h1 => ?_)
        | refine run_guard0 rfl rfl (fun h1 => ?_) (fun h1 => ?_)
        | refine run_guard rfl rfl (fun h1 => ?_) (fun h1 => ?_)
        | refine run_nil ?_
        | refine aw_seq ?_
        | refine aw_region (by kernel_rfl) (Nat.le_of_ble_eq_true rfl) ?_
        | refine aw_block ?_
        | refine aw_cond_t rfl ?_
        | refine aw_cond_f rfl ?_
        | refine aw_cond_tp rfl (by omega) ?_
        | refine aw_cond_fp rfl (by omega) ?_
        | refine aw_cond1 rfl (fun h1 => ?_) (fun h1 => ?_)
        | refine aw_cond rfl (fun h1 => ?_) (fun h1 => ?_)
        | refine aw_skip ?_
        | refine aw_exit ?_
        | refine aw_ret ?_
        | refine pp_ret ?_
        | refine pp_normal ?_
      all_goals first | rfl | (exfalso; omega)
    · have HO := ac_close1 a d ha (by omega) hd
      by_cases hr : rdN d a (8 * d.size - a) = 0
      · rw [if_neg (by rintro (h | h); exact h8 h; exact h hr)] at hst
        subst hst
        rw [hr, show decide (¬ (0 : Int) = 0) = false from rfl] at HO
        refine acalls_law Try.func48 rfl rfl rfl ?_
        repeat' first
          | refine st ?_
          | refine stRW [0] HL ?_
          | refine stRW [1, 0] HO ?_
          | refine st (h := ok_makeFunc (by ((repeat (apply ArgsR.cons; rfl)); exact ArgsR.nil)) (by ((repeat (apply ArgsR.cons; rfl)); exact ArgsR.nil))) ?_
          | refine stm ?_
          | refine run_want rfl rfl ?_
          | refine run_unwant rfl rfl ?_
          | refine run_undef rfl rfl ?_
          | refine run_guard1t rfl rfl (by omega) ?_
          | refine run_guard1f rfl rfl (by omega) ?_
          | refine run_guard0t rfl rfl (by omega) ?_
          | refine run_guard0f rfl rfl (by omega) ?_
          | refine run_guard1 rfl rfl (fun h1 => ?_) (fun h1 => ?_)
          | refine run_guard0 rfl rfl (fun h1 => ?_) (fun h1 => ?_)
          | refine run_guard rfl rfl (fun h1 => ?_) (fun h1 => ?_)
          | refine run_nil ?_
          | refine aw_seq ?_
          | refine aw_region (by kernel_rfl) (Nat.le_of_ble_eq_true rfl) ?_
          | refine aw_block ?_
          | refine aw_cond_t rfl ?_
          | refine aw_cond_f rfl ?_
          | refine aw_cond_tp rfl (by omega) ?_
          | refine aw_cond_fp rfl (by omega) ?_
          | refine aw_cond1 rfl (fun h1 => ?_) (fun h1 => ?_)
          | refine aw_cond rfl (fun h1 => ?_) (fun h1 => ?_)
          | refine aw_skip ?_
          | refine aw_exit ?_
          | refine aw_ret ?_
          | refine pp_ret ?_
          | refine pp_normal ?_
        all_goals first | rfl | (exfalso; omega)
      · rw [if_pos (.inr hr)] at hst
        subst hst
        rw [decide_eq_true hr] at HO
        refine acalls_law Try.func48 rfl rfl rfl ?_
        repeat' first
          | refine st ?_
          | refine stRW [0] HL ?_
          | refine stRW [1, 0] HO ?_
          | refine st (h := ok_makeFunc (by ((repeat (apply ArgsR.cons; rfl)); exact ArgsR.nil)) (by ((repeat (apply ArgsR.cons; rfl)); exact ArgsR.nil))) ?_
          | refine stm ?_
          | refine run_want rfl rfl ?_
          | refine run_unwant rfl rfl ?_
          | refine run_undef rfl rfl ?_
          | refine run_guard1t rfl rfl (by omega) ?_
          | refine run_guard1f rfl rfl (by omega) ?_
          | refine run_guard0t rfl rfl (by omega) ?_
          | refine run_guard0f rfl rfl (by omega) ?_
          | refine run_guard1 rfl rfl (fun h1 => ?_) (fun h1 => ?_)
          | refine run_guard0 rfl rfl (fun h1 => ?_) (fun h1 => ?_)
          | refine run_guard rfl rfl (fun h1 => ?_) (fun h1 => ?_)
          | refine run_nil ?_
          | refine aw_seq ?_
          | refine aw_region (by kernel_rfl) (Nat.le_of_ble_eq_true rfl) ?_
          | refine aw_block ?_
          | refine aw_cond_t rfl ?_
          | refine aw_cond_f rfl ?_
          | refine aw_cond_tp rfl (by omega) ?_
          | refine aw_cond_fp rfl (by omega) ?_
          | refine aw_cond1 rfl (fun h1 => ?_) (fun h1 => ?_)
          | refine aw_cond rfl (fun h1 => ?_) (fun h1 => ?_)
          | refine aw_skip ?_
          | refine aw_exit ?_
          | refine aw_ret ?_
          | refine pp_ret ?_
          | refine pp_normal ?_
        all_goals first | rfl | (exfalso; omega)
  · rw [if_pos he] at hst
    subst hst
    refine acalls_law Try.func48 rfl rfl rfl ?_
    repeat' first
      | refine st ?_
      | refine st (h := ok_makeFunc (by ((repeat (apply ArgsR.cons; rfl)); exact ArgsR.nil)) (by ((repeat (apply ArgsR.cons; rfl)); exact ArgsR.nil))) ?_
      | refine stm ?_
      | refine run_want rfl rfl ?_
      | refine run_unwant rfl rfl ?_
      | refine run_undef rfl rfl ?_
      | refine run_guard1t rfl rfl (by omega) ?_
      | refine run_guard1f rfl rfl (by omega) ?_
      | refine run_guard0t rfl rfl (by omega) ?_
      | refine run_guard0f rfl rfl (by omega) ?_
      | refine run_guard1 rfl rfl (fun h1 => ?_) (fun h1 => ?_)
      | refine run_guard0 rfl rfl (fun h1 => ?_) (fun h1 => ?_)
      | refine run_guard rfl rfl (fun h1 => ?_) (fun h1 => ?_)
      | refine run_nil ?_
      | refine aw_seq ?_
      | refine aw_region (by kernel_rfl) (Nat.le_of_ble_eq_true rfl) ?_
      | refine aw_block ?_
      | refine aw_cond_t rfl ?_
      | refine aw_cond_f rfl ?_
      | refine aw_cond_tp rfl (by omega) ?_
      | refine aw_cond_fp rfl (by omega) ?_
      | refine aw_cond1 rfl (fun h1 => ?_) (fun h1 => ?_)
      | refine aw_cond rfl (fun h1 => ?_) (fun h1 => ?_)
      | refine aw_skip ?_
      | refine aw_exit ?_
      | refine aw_ret ?_
      | refine pp_ret ?_
      | refine pp_normal ?_
    all_goals first | rfl | (exfalso; omega)
end Go.Proofs.Ytjamfmnlhiolkaa
