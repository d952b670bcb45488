/- Bits: read. -/
import Derived.Test.YtmmaolnjjjdecaaD10
import Derived.Test.YtmmaolnjjjdecaaV21
set_option linter.unusedVariables false
set_option linter.unusedSimpArgs false
namespace Go.Proofs.Ytmmaolnjjjdecaa
open Go Av
set_option maxRecDepth 20000
/-- What a field becomes when it is read: width, number, text; where the reader is then; its error. -/
def rdF (d : ByteArray) (a : Nat) (e q w x : Int) (t : ByteArray) : (Int × Int × ByteArray) × Nat × Int :=
  if q = 0 then ((w, (unsR d a e w).1, ⟨#[]⟩), (unsR d a e w).2) else if q = 1 then ((w, (sgnR d a e w).1, ⟨#[]⟩), (sgnR d a e w).2) else if q = 2 then ((0, (if (flgR d a e).1 = true then 1 else 0), ⟨#[]⟩), (flgR d a e).2) else if q = 3 then ((w, 0, (txtR d a e w).1), (txtR d a e w).2) else ((w, x, t), (a, e))
set_option maxHeartbeats 1000000 in
theorem ac_read (q w x : Int) (t : ByteArray) (w' x' : Int) (t' : ByteArray) (e e' : Int) (a a' : Nat) (d : ByteArray) (hst : rdF d a e q w x t = ((w', x', t'), a', e')) (ha : a ≤ 8 * d.size) (hd : d.size ≤ 1000000) (hw : -9223372036854775808 ≤ w ∧ w ≤ 9223372036854775807) : ACalls Try.prog 22 [.pointer (some ⟨0, 0, none⟩), .agg #[.int .i64 q, .int .i64 w, .int .i64 x, .string t]] [some ⟨[.string d, .int .i64 (a : Int), .int .i64 e], true, 1⟩] (.agg #[.int .i64 q, .int .i64 w', .int .i64 x', .string t']) [some ⟨[.string d, .int .i64 (a' : Int), .int .i64 e'], true, 1⟩] := by
  unfold rdF at hst
  by_cases h0 : q = 0
  · rw [if_pos h0] at hst
    obtain ⟨v, a1, e1, hf⟩ : ∃ v a1 e1, unsR d a e w = (v, a1, e1) := ⟨_, _, _, rfl⟩
    rw [hf] at hst
    simp only [Prod.mk.injEq] at hst
    obtain ⟨⟨rfl, rfl, rfl⟩, rfl, rfl⟩ := hst
    have HX := ac_unsR w e e1 v a a1 d hf ha hd hw
    refine acalls_of_aw Try.func22 rfl rfl ?_
    repeat' first
      | refine st ?_
      | refine stMW [0] HX ?_
      | refine stm ?_
      | refine run_want rfl rfl ?_
      | refine run_unwant rfl rfl ?_
      | refine run_undef rfl rfl ?_
      | refine run_guard1t rfl rfl (by omega) ?_
      | refine run_guard1f rfl rfl (by omega) ?_
      | refine run_guard0t rfl rfl (by omega) ?_
      | refine run_guard0f rfl rfl (by omega) ?_
      | refine run_guard1 rfl rfl (fun h1 => ?_) (fun h1 => ?_)
      | refine run_guard0 rfl rfl (fun h1 => ?_) (fun h1 => ?_)
      | refine run_guard rfl rfl (fun h1 => ?_) (fun h1 => ?_)
      | refine run_nil ?_
      | refine aw_seq ?_
      | refine aw_region (by kernel_rfl) (Nat.le_of_ble_eq_true rfl) ?_
      | refine aw_block ?_
      | refine aw_cond_t rfl ?_
      | refine aw_cond_f rfl ?_
      | refine aw_cond_tp rfl (by omega) ?_
      | refine aw_cond_fp rfl (by omega) ?_
      | refine aw_cond1 rfl (fun h1 => ?_) (fun h1 => ?_)
      | refine aw_cond rfl (fun h1 => ?_) (fun h1 => ?_)
      | refine aw_skip ?_
      | refine aw_exit ?_
      | refine aw_ret ?_
      | refine pp_ret ?_
      | refine pp_normal ?_
    all_goals first | exact pm_ret _ (renumD [0]) rfl | (exfalso; omega)
  · rw [if_neg h0] at hst
    by_cases h1 : q = 1
    · rw [if_pos h1] at hst
      obtain ⟨v, a1, e1, hf⟩ : ∃ v a1 e1, sgnR d a e w = (v, a1, e1) := ⟨_, _, _, rfl⟩
      rw [hf] at hst
      simp only [Prod.mk.injEq] at hst
      obtain ⟨⟨rfl, rfl, rfl⟩, rfl, rfl⟩ := hst
      have HX := ac_sgnR w e e1 0 v a a1 d hf ha hd hw
      refine acalls_of_aw Try.func22 rfl rfl ?_
      repeat' first
        | refine st ?_
        | refine stMW [0] HX ?_
        | refine stm ?_
        | refine run_want rfl rfl ?_
        | refine run_unwant rfl rfl ?_
        | refine run_undef rfl rfl ?_
        | refine run_guard1t rfl rfl (by omega) ?_
        | refine run_guard1f rfl rfl (by omega) ?_
        | refine run_guard0t rfl rfl (by omega) ?_
        | refine run_guard0f rfl rfl (by omega) ?_
        | refine run_guard1 rfl rfl (fun h1 => ?_) (fun h1 => ?_)
        | refine run_guard0 rfl rfl (fun h1 => ?_) (fun h1 => ?_)
        | refine run_guard rfl rfl (fun h1 => ?_) (fun h1 => ?_)
        | refine run_nil ?_
        | refine aw_seq ?_
        | refine aw_region (by kernel_rfl) (Nat.le_of_ble_eq_true rfl) ?_
        | refine aw_block ?_
        | refine aw_cond_t rfl ?_
        | refine aw_cond_f rfl ?_
        | refine aw_cond_tp rfl (by omega) ?_
        | refine aw_cond_fp rfl (by omega) ?_
        | refine aw_cond1 rfl (fun h1 => ?_) (fun h1 => ?_)
        | refine aw_cond rfl (fun h1 => ?_) (fun h1 => ?_)
        | refine aw_skip ?_
        | refine aw_exit ?_
        | refine aw_ret ?_
        | refine pp_ret ?_
        | refine pp_normal ?_
      all_goals first | exact pm_ret _ (renumD [0]) rfl | (exfalso; omega)
    · rw [if_neg h1] at hst
      by_cases h2 : q = 2
      · rw [if_pos h2] at hst
        obtain ⟨v, a1, e1, hf⟩ : ∃ v a1 e1, flgR d a e = (v, a1, e1) := ⟨_, _, _, rfl⟩
        rw [hf] at hst
        simp only [Prod.mk.injEq] at hst
        obtain ⟨⟨rfl, rfl, rfl⟩, rfl, rfl⟩ := hst
        have HX := ac_flgR e e1 v a a1 d hf ha hd 
        cases v
        · refine acalls_of_aw Try.func22 rfl rfl ?_
          repeat' first
            | refine st ?_
            | refine stMW [0] HX ?_
            | refine stm ?_
            | refine run_want rfl rfl ?_
            | refine run_unwant rfl rfl ?_
            | refine run_undef rfl rfl ?_
            | refine run_guard1t rfl rfl (by omega) ?_
            | refine run_guard1f rfl rfl (by omega) ?_
            | refine run_guard0t rfl rfl (by omega) ?_
            | refine run_guard0f rfl rfl (by omega) ?_
            | refine run_guard1 rfl rfl (fun h1 => ?_) (fun h1 => ?_)
            | refine run_guard0 rfl rfl (fun h1 => ?_) (fun h1 => ?_)
            | refine run_guard rfl rfl (fun h1 => ?_) (fun h1 => ?_)
            | refine run_nil ?_
            | refine aw_seq ?_
            | refine aw_region (by kernel_rfl) (Nat.le_of_ble_eq_true rfl) ?_
            | refine aw_block ?_
            | refine aw_cond_t rfl ?_
            | refine aw_cond_f rfl ?_
            | refine aw_cond_tp rfl (by omega) ?_
            | refine aw_cond_fp rfl (by omega) ?_
            | refine aw_cond1 rfl (fun h1 => ?_) (fun h1 => ?_)
            | refine aw_cond rfl (fun h1 => ?_) (fun h1 => ?_)
            | refine aw_skip ?_
            | refine aw_exit ?_
            | refine aw_ret ?_
            | refine pp_ret ?_
            | refine pp_normal ?_
          all_goals first | exact pm_ret _ (renumD [0]) rfl | (exfalso; omega)
        · refine acalls_of_aw Try.func22 rfl rfl ?_
          repeat' first
            | refine st ?_
            | refine stMW [0] HX ?_
            | refine stm ?_
            | refine run_want rfl rfl ?_
            | refine run_unwant rfl rfl ?_
            | refine run_undef rfl rfl ?_
            | refine run_guard1t rfl rfl (by omega) ?_
            | refine run_guard1f rfl rfl (by omega) ?_
            | refine run_guard0t rfl rfl (by omega) ?_
            | refine run_guard0f rfl rfl (by omega) ?_
            | refine run_guard1 rfl rfl (fun h1 => ?_) (fun h1 => ?_)
            | refine run_guard0 rfl rfl (fun h1 => ?_) (fun h1 => ?_)
            | refine run_guard rfl rfl (fun h1 => ?_) (fun h1 => ?_)
            | refine run_nil ?_
            | refine aw_seq ?_
            | refine aw_region (by kernel_rfl) (Nat.le_of_ble_eq_true rfl) ?_
            | refine aw_block ?_
            | refine aw_cond_t rfl ?_
            | refine aw_cond_f rfl ?_
            | refine aw_cond_tp rfl (by omega) ?_
            | refine aw_cond_fp rfl (by omega) ?_
            | refine aw_cond1 rfl (fun h1 => ?_) (fun h1 => ?_)
            | refine aw_cond rfl (fun h1 => ?_) (fun h1 => ?_)
            | refine aw_skip ?_
            | refine aw_exit ?_
            | refine aw_ret ?_
            | refine pp_ret ?_
            | refine pp_normal ?_
          all_goals first | exact pm_ret _ (renumD [0]) rfl | (exfalso; omega)
      · rw [if_neg h2] at hst
        by_cases h3 : q = 3
        · rw [if_pos h3] at hst
          obtain ⟨v, a1, e1, hf⟩ : ∃ v a1 e1, txtR d a e w = (v, a1, e1) := ⟨_, _, _, rfl⟩
          rw [hf] at hst
          simp only [Prod.mk.injEq] at hst
          obtain ⟨⟨rfl, rfl, rfl⟩, rfl, rfl⟩ := hst
          have HX := ac_txtR w e e1 v a a1 d hf ha hd hw
          refine acalls_of_aw Try.func22 rfl rfl ?_
          repeat' first
            | refine st ?_
            | refine stMW [0] HX ?_
            | refine stm ?_
            | refine run_want rfl rfl ?_
            | refine run_unwant rfl rfl ?_
            | refine run_undef rfl rfl ?_
            | refine run_guard1t rfl rfl (by omega) ?_
            | refine run_guard1f rfl rfl (by omega) ?_
            | refine run_guard0t rfl rfl (by omega) ?_
            | refine run_guard0f rfl rfl (by omega) ?_
            | refine run_guard1 rfl rfl (fun h1 => ?_) (fun h1 => ?_)
            | refine run_guard0 rfl rfl (fun h1 => ?_) (fun h1 => ?_)
            | refine run_guard rfl rfl (fun h1 => ?_) (fun h1 => ?_)
            | refine run_nil ?_
            | refine aw_seq ?_
            | refine aw_region (by kernel_rfl) (Nat.le_of_ble_eq_true rfl) ?_
            | refine aw_block ?_
            | refine aw_cond_t rfl ?_
            | refine aw_cond_f rfl ?_
            | refine aw_cond_tp rfl (by omega) ?_
            | refine aw_cond_fp rfl (by omega) ?_
            | refine aw_cond1 rfl (fun h1 => ?_) (fun h1 => ?_)
            | refine aw_cond rfl (fun h1 => ?_) (fun h1 => ?_)
            | refine aw_skip ?_
            | refine aw_exit ?_
            | refine aw_ret ?_
            | refine pp_ret ?_
            | refine pp_normal ?_
          all_goals first | exact pm_ret _ (renumD [0]) rfl | (exfalso; omega)
        · rw [if_neg h3] at hst
          simp only [Prod.mk.injEq] at hst
          obtain ⟨⟨rfl, rfl, rfl⟩, rfl, rfl⟩ := hst
          refine acalls_of_aw Try.func22 rfl rfl ?_
          repeat' first
            | refine st ?_
            | refine stm ?_
            | refine run_want rfl rfl ?_
            | refine run_unwant rfl rfl ?_
            | refine run_undef rfl rfl ?_
            | refine run_guard1t rfl rfl (by omega) ?_
            | refine run_guard1f rfl rfl (by omega) ?_
            | refine run_guard0t rfl rfl (by omega) ?_
            | refine run_guard0f rfl rfl (by omega) ?_
            | refine run_guard1 rfl rfl (fun h1 => ?_) (fun h1 => ?_)
            | refine run_guard0 rfl rfl (fun h1 => ?_) (fun h1 => ?_)
            | refine run_guard rfl rfl (fun h1 => ?_) (fun h1 => ?_)
            | refine run_nil ?_
            | refine aw_seq ?_
            | refine aw_region (by kernel_rfl) (Nat.le_of_ble_eq_true rfl) ?_
            | refine aw_block ?_
            | refine aw_cond_t rfl ?_
            | refine aw_cond_f rfl ?_
            | refine aw_cond_tp rfl (by omega) ?_
            | refine aw_cond_fp rfl (by omega) ?_
            | refine aw_cond1 rfl (fun h1 => ?_) (fun h1 => ?_)
            | refine aw_cond rfl (fun h1 => ?_) (fun h1 => ?_)
            | refine aw_skip ?_
            | refine aw_exit ?_
            | refine aw_ret ?_
            | refine pp_ret ?_
            | refine pp_normal ?_
          all_goals first | exact pm_ret _ (renumD [0]) rfl | (exfalso; omega)
end Go.Proofs.Ytmmaolnjjjdecaa
