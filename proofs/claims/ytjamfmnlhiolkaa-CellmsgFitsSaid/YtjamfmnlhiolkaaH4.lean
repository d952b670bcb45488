/- Lists of places: copied. -/
import Derived.Test.YtjamfmnlhiolkaaH1
set_option linter.unusedVariables false
set_option linter.unusedSimpArgs false
namespace Go.Proofs.Ytjamfmnlhiolkaa
open Go Av
set_option maxRecDepth 20000
theorem spC_take (S : List Sp) (k : Nat) : ((S.flatMap spC).drop 0).take (k * 2) = (S.take k).flatMap spC := by
  rw [List.drop_zero]
  induction S generalizing k with
  | nil => simp
  | cons p S ih =>
    cases k with
    | zero => simp
    | succ k =>
      rw [List.flatMap_cons, List.take_succ_cons, List.flatMap_cons, ← ih k, List.take_append, show (spC p).length = 2 from rfl, List.take_of_length_le (show (spC p).length ≤ (k + 1) * 2 by show 2 ≤ _; omega)]
      congr 2
      omega
theorem spC_one (S : List Sp) : (S.flatMap spC).all (·.oneCell') = true := by
  induction S with
  | nil => rfl
  | cons p S ih => rw [List.flatMap_cons, List.all_append, ih]; rfl
set_option maxHeartbeats 2000000 in
theorem ac_clone (S : List Sp) (s : Nat) (hs : s ≤ S.length) (hc : s ≤ 4000000000000) : ACalls Try.prog 42 [.slice (some ⟨0, 0, none⟩) s s] [some ⟨S.flatMap spC, false, 2⟩] (.slice (some ⟨1, 0, none⟩) s s) [none, some ⟨(S.take s).flatMap spC, true, 2⟩] := by
  by_cases h0 : s = 0
  · subst h0
    refine acalls_of_aw Try.func42 rfl rfl ?_
    refine aw_ghost 2 rfl ?_
    repeat' first
      | refine run_alt (ok_slice_nilE rfl rfl) ?_ ?_
      | refine run_step (ok_append0 (xs := ([] : List Sp).flatMap spC) rfl rfl rfl rfl rfl rfl (Src.slc rfl Ty.eq rfl (Nat.zero_le _) rfl (spC_one _) rfl) (Nat.zero_le _) (by omega) (by (repeat constructor))) (Nat.le_of_ble_eq_true rfl) ?_
      | refine st ?_
      | refine stm ?_
      | refine run_want rfl rfl ?_
      | refine run_unwant rfl rfl ?_
      | refine run_undef rfl rfl ?_
      | refine run_guard1t rfl rfl (by omega) ?_
      | refine run_guard1f rfl rfl (by omega) ?_
      | refine run_guard0t rfl rfl (by omega) ?_
      | refine run_guard0f rfl rfl (by omega) ?_
      | refine run_guard1 rfl rfl (fun h1 => ?_) (fun h1 => ?_)
      | refine run_guard0 rfl rfl (fun h1 => ?_) (fun h1 => ?_)
      | refine run_guard rfl rfl (fun h1 => ?_) (fun h1 => ?_)
      | refine run_nil ?_
      | refine aw_seq ?_
      | refine aw_region (by kernel_rfl) (Nat.le_of_ble_eq_true rfl) ?_
      | refine aw_block ?_
      | refine aw_cond_t rfl ?_
      | refine aw_cond_f rfl ?_
      | refine aw_cond_tp rfl (by omega) ?_
      | refine aw_cond_fp rfl (by omega) ?_
      | refine aw_cond1 rfl (fun h1 => ?_) (fun h1 => ?_)
      | refine aw_cond rfl (fun h1 => ?_) (fun h1 => ?_)
      | refine aw_skip ?_
      | refine aw_exit ?_
      | refine aw_ret ?_
      | refine pp_ret ?_
      | refine pp_normal ?_
    all_goals first | (refine pmw_ret _ (renumA [0, 1]) ?_; exact Wk.nil) | exact pm_ret _ (renumD [0, 3]) rfl
  · refine acalls_of_aw Try.func42 rfl rfl ?_
    repeat' first
      | refine st (h := ok_slice_nilF rfl rfl (by omega)) ?_
      | refine run_step (ok_append0 (xs := (S.take s).flatMap spC) rfl rfl rfl rfl rfl rfl (Src.slc rfl Ty.eq rfl (by rw [spC_len]; omega) (spC_take S s) (spC_one _) rfl) (Nat.zero_le _) (by omega) (by (repeat constructor))) (Nat.le_of_ble_eq_true rfl) ?_
      | refine st ?_
      | refine stm ?_
      | refine run_want rfl rfl ?_
      | refine run_unwant rfl rfl ?_
      | refine run_undef rfl rfl ?_
      | refine run_guard1t rfl rfl (by omega) ?_
      | refine run_guard1f rfl rfl (by omega) ?_
      | refine run_guard0t rfl rfl (by omega) ?_
      | refine run_guard0f rfl rfl (by omega) ?_
      | refine run_guard1 rfl rfl (fun h1 => ?_) (fun h1 => ?_)
      | refine run_guard0 rfl rfl (fun h1 => ?_) (fun h1 => ?_)
      | refine run_guard rfl rfl (fun h1 => ?_) (fun h1 => ?_)
      | refine run_nil ?_
      | refine aw_seq ?_
      | refine aw_region (by kernel_rfl) (Nat.le_of_ble_eq_true rfl) ?_
      | refine aw_block ?_
      | refine aw_cond_t rfl ?_
      | refine aw_cond_f rfl ?_
      | refine aw_cond_tp rfl (by omega) ?_
      | refine aw_cond_fp rfl (by omega) ?_
      | refine aw_cond1 rfl (fun h1 => ?_) (fun h1 => ?_)
      | refine aw_cond rfl (fun h1 => ?_) (fun h1 => ?_)
      | refine aw_skip ?_
      | refine aw_exit ?_
      | refine aw_ret ?_
      | refine pp_ret ?_
      | refine pp_normal ?_
    all_goals first | exact pm_ret _ (renumD [0, 2]) rfl | (exfalso; omega)
end Go.Proofs.Ytjamfmnlhiolkaa
