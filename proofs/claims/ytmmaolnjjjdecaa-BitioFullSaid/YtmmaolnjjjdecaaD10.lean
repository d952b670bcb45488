/- Bits: the reference reads texts. -/
import Derived.Test.YtmmaolnjjjdecaaD9
import Derived.Test.YtmmaolnjjjdecaaD6
set_option linter.unusedVariables false
set_option linter.unusedSimpArgs false
namespace Go.Proofs.Ytmmaolnjjjdecaa
open Go Av
set_option maxRecDepth 20000
structure Yg where
  i : Nat
  Z : List Int
set_option maxHeartbeats 4000000 in
theorem ac_rtxtR (m e e' : Int) (t : ByteArray) (a a' : Nat) (d d2 d2' : ByteArray) (a2 a2' : Int) (hst : txtR d a e m = (t, a', e')) (hr : RR d a e d2 a2) (hr' : RR d a' e' d2' a2') (ha : a ≤ 8 * d.size) (hd : d.size ≤ 1000000) (hm : -9223372036854775808 ≤ m ∧ m ≤ 9223372036854775807) :
    ACalls Try.prog 32 [.pointer (some ⟨0, 0, none⟩), .int .i64 m] [some ⟨[.string d2, .int .i64 a2, .int .i64 e], true, 1⟩] (.string t) [some ⟨[.string d2', .int .i64 a2', .int .i64 e'], true, 1⟩] := by
  unfold txtR at hst
  have HW := ac_rwidth m hm
  obtain ⟨v, a1, e1, hf⟩ : ∃ v a1 e1, fieldR d a e (decide (1 ≤ m ∧ m ≤ 4095)) (wdth m) = (v, a1, e1) := ⟨_, _, _, rfl⟩
  rw [hf] at hst
  dsimp only at hst
  have hwd : 1 ≤ m → 1 ≤ wdth m ∧ wdth m ≤ 63 := fun h => wdth_bd m (by omega)
  have hv := fieldR_bd hf (by simp; omega)
  have hcs := fieldR_cases hf
  by_cases hc : e = 0 ∧ ¬ (1 ≤ m ∧ m ≤ 4095)
  · obtain ⟨rfl, hc⟩ := hc
    unfold fieldR at hf
    rw [if_neg (by simp), if_pos (decide_eq_false hc)] at hf
    simp only [Prod.mk.injEq] at hf
    obtain ⟨rfl, rfl, rfl⟩ := hf
    rw [if_pos (by decide)] at hst
    simp only [Prod.mk.injEq] at hst
    obtain ⟨rfl, rfl, rfl⟩ := hst
    obtain ⟨rfl, rfl⟩ := hr.1 rfl
    obtain ⟨rfl, rfl⟩ := hr'.2 (by decide)
    have HX := ac_rrfail a 0 1 d2
    have HG := ac_rrgetE (wdth m) 1 (by decide)
    refine acalls_of_aw Try.func32 rfl rfl ?_
    repeat' first
      | refine st ?_
      | refine st_call (HW) ?_
      | refine stMW [0] HX ?_
      | refine stMW [0] HG ?_
      | refine stm ?_
      | refine run_want rfl rfl ?_
      | refine run_unwant rfl rfl ?_
      | refine run_undef rfl rfl ?_
      | refine run_guard1t rfl rfl (by omega) ?_
      | refine run_guard1f rfl rfl (by omega) ?_
      | refine run_guard0t rfl rfl (by omega) ?_
      | refine run_guard0f rfl rfl (by omega) ?_
      | refine run_guard1 rfl rfl (fun h1 => ?_) (fun h1 => ?_)
      | refine run_guard0 rfl rfl (fun h1 => ?_) (fun h1 => ?_)
      | refine run_guard rfl rfl (fun h1 => ?_) (fun h1 => ?_)
      | refine run_nil ?_
      | refine aw_seq ?_
      | refine aw_region (by kernel_rfl) (Nat.le_of_ble_eq_true rfl) ?_
      | refine aw_block ?_
      | refine aw_cond_t rfl ?_
      | refine aw_cond_f rfl ?_
      | refine aw_cond_tp rfl (by omega) ?_
      | refine aw_cond_fp rfl (by omega) ?_
      | refine aw_cond1 rfl (fun h1 => ?_) (fun h1 => ?_)
      | refine aw_cond rfl (fun h1 => ?_) (fun h1 => ?_)
      | refine aw_skip ?_
      | refine aw_exit ?_
      | refine aw_ret ?_
      | refine pp_ret ?_
      | refine pp_normal ?_
    all_goals first | exact pm_ret _ (renumD [0]) rfl | (exfalso; omega)
  · have hf' : fieldR d a e true (wdth m) = (v, a1, e1) := by
      rw [← hf]
      by_cases he : e = 0
      · rw [decide_eq_true (show 1 ≤ m ∧ m ≤ 4095 by omega)]
      · unfold fieldR; rw [if_pos he, if_pos he]
    by_cases he1 : e1 = 0
    · rw [if_neg (by simpa using he1)] at hst
      obtain ⟨c1, c2, c3, c4, c5, c6⟩ : e1 = 0 ∧ e = 0 ∧ decide (1 ≤ m ∧ m ≤ 4095) = true ∧ a1 = a + (wdth m).toNat ∧ v = rdN d a (wdth m).toNat ∧ wdth m ≤ 8 * d.size - a := by
        rcases hcs with h | h
        · exact absurd he1 h.1
        · exact h
      have c3 := of_decide_eq_true c3
      have hwd := hwd c3.1
      subst e1 e
      obtain ⟨rfl, rfl⟩ := hr.1 rfl
      have HG := ac_rrget (wdth m) 0 0 v a a1 d2 d2 d2 a a1 hf' ⟨fun _ => ⟨rfl, rfl⟩, fun h => absurd rfl h⟩ ⟨fun _ => ⟨rfl, rfl⟩, fun h => absurd rfl h⟩ ha hd (by omega)
      have HL := ac_rrleft a1 0 d2 (by omega) hd
      by_cases h2 : m < v
      · rw [if_pos h2] at hst
        simp only [Prod.mk.injEq] at hst
        obtain ⟨rfl, rfl, rfl⟩ := hst
        obtain ⟨rfl, rfl⟩ := hr'.2 (by decide)
        have HX := ac_rrfail a1 0 2 d2
        refine acalls_of_aw Try.func32 rfl rfl ?_
        repeat' first
          | refine st ?_
          | refine st_call (HW) ?_
          | refine stMW [0] HG ?_
          | refine stMW [0] HX ?_
          | refine stm ?_
          | refine run_want rfl rfl ?_
          | refine run_unwant rfl rfl ?_
          | refine run_undef rfl rfl ?_
          | refine run_guard1t rfl rfl (by omega) ?_
          | refine run_guard1f rfl rfl (by omega) ?_
          | refine run_guard0t rfl rfl (by omega) ?_
          | refine run_guard0f rfl rfl (by omega) ?_
          | refine run_guard1 rfl rfl (fun h1 => ?_) (fun h1 => ?_)
          | refine run_guard0 rfl rfl (fun h1 => ?_) (fun h1 => ?_)
          | refine run_guard rfl rfl (fun h1 => ?_) (fun h1 => ?_)
          | refine run_nil ?_
          | refine aw_seq ?_
          | refine aw_region (by kernel_rfl) (Nat.le_of_ble_eq_true rfl) ?_
          | refine aw_block ?_
          | refine aw_cond_t rfl ?_
          | refine aw_cond_f rfl ?_
          | refine aw_cond_tp rfl (by omega) ?_
          | refine aw_cond_fp rfl (by omega) ?_
          | refine aw_cond1 rfl (fun h1 => ?_) (fun h1 => ?_)
          | refine aw_cond rfl (fun h1 => ?_) (fun h1 => ?_)
          | refine aw_skip ?_
          | refine aw_exit ?_
          | refine aw_ret ?_
          | refine pp_ret ?_
          | refine pp_normal ?_
        all_goals first | exact pm_ret _ (renumD [0]) rfl | (exfalso; omega)
      · rw [if_neg h2] at hst
        by_cases h3 : (8 * d2.size : Int) - a1 < 8 * v
        · rw [if_pos h3] at hst
          simp only [Prod.mk.injEq] at hst
          obtain ⟨rfl, rfl, rfl⟩ := hst
          obtain ⟨rfl, rfl⟩ := hr'.2 (by decide)
          have HX := ac_rrfail a1 0 9 d2
          refine acalls_of_aw Try.func32 rfl rfl ?_
          repeat' first
            | refine st ?_
            | refine st_call (HW) ?_
            | refine stMW [0] HG ?_
            | refine stRW [0] HL ?_
            | refine stMW [0] HX ?_
            | refine stm ?_
            | refine run_want rfl rfl ?_
            | refine run_unwant rfl rfl ?_
            | refine run_undef rfl rfl ?_
            | refine run_guard1t rfl rfl (by omega) ?_
            | refine run_guard1f rfl rfl (by omega) ?_
            | refine run_guard0t rfl rfl (by omega) ?_
            | refine run_guard0f rfl rfl (by omega) ?_
            | refine run_guard1 rfl rfl (fun h1 => ?_) (fun h1 => ?_)
            | refine run_guard0 rfl rfl (fun h1 => ?_) (fun h1 => ?_)
            | refine run_guard rfl rfl (fun h1 => ?_) (fun h1 => ?_)
            | refine run_nil ?_
            | refine aw_seq ?_
            | refine aw_region (by kernel_rfl) (Nat.le_of_ble_eq_true rfl) ?_
            | refine aw_block ?_
            | refine aw_cond_t rfl ?_
            | refine aw_cond_f rfl ?_
            | refine aw_cond_tp rfl (by omega) ?_
            | refine aw_cond_fp rfl (by omega) ?_
            | refine aw_cond1 rfl (fun h1 => ?_) (fun h1 => ?_)
            | refine aw_cond rfl (fun h1 => ?_) (fun h1 => ?_)
            | refine aw_skip ?_
            | refine aw_exit ?_
            | refine aw_ret ?_
            | refine pp_ret ?_
            | refine pp_normal ?_
          all_goals first | exact pm_ret _ (renumD [0]) rfl | (exfalso; omega)
        · rw [if_neg h3] at hst
          simp only [Prod.mk.injEq] at hst
          obtain ⟨ht, ha', rfl⟩ := hst
          obtain ⟨rfl, rfl⟩ := hr'.1 rfl
          obtain ⟨N, hN⟩ : ∃ N, v.toNat = N := ⟨_, rfl⟩
          rw [hN] at ht ha'
          clear c5 hf hf' hcs
          refine acalls_of_aw Try.func32 rfl rfl ?_
          repeat' first
            | refine st ?_
            | refine st_call (HW) ?_
            | refine stMW [0] HG ?_
            | refine stRW [0] HL ?_
            | refine stm ?_
            | refine run_want rfl rfl ?_
            | refine run_unwant rfl rfl ?_
            | refine run_undef rfl rfl ?_
            | refine run_guard1t rfl rfl (by omega) ?_
            | refine run_guard1f rfl rfl (by omega) ?_
            | refine run_guard0t rfl rfl (by omega) ?_
            | refine run_guard0f rfl rfl (by omega) ?_
            | refine run_guard1 rfl rfl (fun h1 => ?_) (fun h1 => ?_)
            | refine run_guard0 rfl rfl (fun h1 => ?_) (fun h1 => ?_)
            | refine run_guard rfl rfl (fun h1 => ?_) (fun h1 => ?_)
            | refine run_nil ?_
            | refine aw_seq ?_
            | refine aw_region (by kernel_rfl) (Nat.le_of_ble_eq_true rfl) ?_
            | refine aw_block ?_
            | refine aw_cond_t rfl ?_
            | refine aw_cond_f rfl ?_
            | refine aw_cond_tp rfl (by omega) ?_
            | refine aw_cond_fp rfl (by omega) ?_
            | refine aw_cond1 rfl (fun h1 => ?_) (fun h1 => ?_)
            | refine aw_cond rfl (fun h1 => ?_) (fun h1 => ?_)
            | refine aw_skip ?_
            | refine aw_exit ?_
            | refine aw_ret ?_
            | refine pp_ret ?_
            | refine pp_normal ?_
          rw [hN]
          refine aw_loopg
            (S := fun y : Yg => [(0, .pointer (some ⟨0, 0, none⟩)), (5, .int .i64 v), (6, .slice (some ⟨1, 0, none⟩) N N), (7, .int .i64 y.i)])
            (B := fun y : Yg => [some ⟨[.string d2', .int .i64 ((a1 + 8 * y.i : Nat) : Int), .int .i64 0], true, 1⟩, some ⟨List.map (Value.int .u8) y.Z, true, 1⟩])
            (R := fun y : Yg => y.i ≤ N ∧ y.Z = rdB d2' a1 y.i ++ List.replicate (N - y.i) 0)
            (μ := fun y : Yg => N - y.i) ⟨0, List.replicate N 0⟩ (fitsD [0, 1] (h4 := .blk rfl (WkL.refl _) rfl (.blk rfl (.ofEq (by refine Eq.trans ?_ (renL_map (fun _ => rfl) _).symm; rw [List.map_replicate])) rfl .nil))) ⟨Nat.zero_le _, rfl⟩ ?_
          clear HG HW HL
          rintro ⟨i, Z⟩ ⟨g1, g2⟩
          dsimp only at *
          have hZl : Z.length = N := by rw [g2, List.length_append, rdB_len, List.length_replicate]; omega
          by_cases hi : i < N
          · have HG := ac_rrget0 8 (a1 + 8 * i) d2' (by omega) (by omega) hd
            have hb := rdN_bd d2' (a1 + 8 * i) 8
            generalize hc : rdN d2' (a1 + 8 * i) 8 = c at HG hb
            repeat' first
              | refine st (h := ok_conv_in rfl (show IntKind.u8.min ≤ c by simp [IntKind.min, IntKind.signed]; omega) (show c ≤ IntKind.u8.max by simp [IntKind.max, IntKind.signed, IntKind.bits]; omega)) ?_
              | refine st ?_
              | refine stMW [0] HG ?_
              | refine stm ?_
              | refine run_want rfl rfl ?_
              | refine run_unwant rfl rfl ?_
              | refine run_undef rfl rfl ?_
              | refine run_guard1t rfl rfl (by omega) ?_
              | refine run_guard1f rfl rfl (by omega) ?_
              | refine run_guard0t rfl rfl (by omega) ?_
              | refine run_guard0f rfl rfl (by omega) ?_
              | refine run_guard1 rfl rfl (fun h1 => ?_) (fun h1 => ?_)
              | refine run_guard0 rfl rfl (fun h1 => ?_) (fun h1 => ?_)
              | refine run_guard rfl rfl (fun h1 => ?_) (fun h1 => ?_)
              | refine run_nil ?_
              | refine aw_seq ?_
              | refine aw_region (by kernel_rfl) (Nat.le_of_ble_eq_true rfl) ?_
              | refine aw_block ?_
              | refine aw_cond_t rfl ?_
              | refine aw_cond_f rfl ?_
              | refine aw_cond_tp rfl (by omega) ?_
              | refine aw_cond_fp rfl (by omega) ?_
              | refine aw_cond1 rfl (fun h1 => ?_) (fun h1 => ?_)
              | refine aw_cond rfl (fun h1 => ?_) (fun h1 => ?_)
              | refine aw_skip ?_
              | refine aw_exit ?_
              | refine aw_ret ?_
              | refine pp_ret ?_
              | refine pp_normal ?_
            refine Exists.intro ⟨i + 1, Z.set i c⟩ ⟨fitsD [0, 1], ⟨hi, ?_⟩, by dsimp only; omega⟩
            dsimp only
            rw [g2, rdB, hc, List.set_append_right _ _ (by rw [rdB_len]; exact Nat.le_refl _), rdB_len, Nat.sub_self, show N - i = (N - (i + 1)) + 1 by omega, List.replicate_succ, List.append_assoc]
            rfl
          · obtain rfl : i = N := by omega
            have hZ : Z = rdB d2' a1 i := by rw [g2, Nat.sub_self]; simp
            have hbu := bytes_u8 Z (hZ ▸ rdB_rng d2' a1 i)
            subst t a'
            rw [← hZ]
            repeat' first
              | refine st (h := ok_bytes_str (l := Z.map b8) rfl rfl (by simp; omega) ((take_full (by simp; omega)).trans hbu)) ?_
              | refine st ?_
              | refine stm ?_
              | refine run_want rfl rfl ?_
              | refine run_unwant rfl rfl ?_
              | refine run_undef rfl rfl ?_
              | refine run_guard1t rfl rfl (by omega) ?_
              | refine run_guard1f rfl rfl (by omega) ?_
              | refine run_guard0t rfl rfl (by omega) ?_
              | refine run_guard0f rfl rfl (by omega) ?_
              | refine run_guard1 rfl rfl (fun h1 => ?_) (fun h1 => ?_)
              | refine run_guard0 rfl rfl (fun h1 => ?_) (fun h1 => ?_)
              | refine run_guard rfl rfl (fun h1 => ?_) (fun h1 => ?_)
              | refine run_nil ?_
              | refine aw_seq ?_
              | refine aw_region (by kernel_rfl) (Nat.le_of_ble_eq_true rfl) ?_
              | refine aw_block ?_
              | refine aw_cond_t rfl ?_
              | refine aw_cond_f rfl ?_
              | refine aw_cond_tp rfl (by omega) ?_
              | refine aw_cond_fp rfl (by omega) ?_
              | refine aw_cond1 rfl (fun h1 => ?_) (fun h1 => ?_)
              | refine aw_cond rfl (fun h1 => ?_) (fun h1 => ?_)
              | refine aw_skip ?_
              | refine aw_exit ?_
              | refine aw_ret ?_
              | refine pp_ret ?_
              | refine pp_normal ?_
            exact pm_ret _ (renumD [0]) rfl
    · rw [if_pos he1] at hst
      simp only [Prod.mk.injEq] at hst
      obtain ⟨rfl, rfl, rfl⟩ := hst
      have HG := ac_rrget (wdth m) e e1 v a a1 d d2 d2' a2 a2' hf' hr hr' ha hd (by omega)
      by_cases he : e = 0
      · subst he
        refine acalls_of_aw Try.func32 rfl rfl ?_
        repeat' first
          | refine st ?_
          | refine st_call (HW) ?_
          | refine stMW [0] HG ?_
          | refine stm ?_
          | refine run_want rfl rfl ?_
          | refine run_unwant rfl rfl ?_
          | refine run_undef rfl rfl ?_
          | refine run_guard1t rfl rfl (by omega) ?_
          | refine run_guard1f rfl rfl (by omega) ?_
          | refine run_guard0t rfl rfl (by omega) ?_
          | refine run_guard0f rfl rfl (by omega) ?_
          | refine run_guard1 rfl rfl (fun h1 => ?_) (fun h1 => ?_)
          | refine run_guard0 rfl rfl (fun h1 => ?_) (fun h1 => ?_)
          | refine run_guard rfl rfl (fun h1 => ?_) (fun h1 => ?_)
          | refine run_nil ?_
          | refine aw_seq ?_
          | refine aw_region (by kernel_rfl) (Nat.le_of_ble_eq_true rfl) ?_
          | refine aw_block ?_
          | refine aw_cond_t rfl ?_
          | refine aw_cond_f rfl ?_
          | refine aw_cond_tp rfl (by omega) ?_
          | refine aw_cond_fp rfl (by omega) ?_
          | refine aw_cond1 rfl (fun h1 => ?_) (fun h1 => ?_)
          | refine aw_cond rfl (fun h1 => ?_) (fun h1 => ?_)
          | refine aw_skip ?_
          | refine aw_exit ?_
          | refine aw_ret ?_
          | refine pp_ret ?_
          | refine pp_normal ?_
        all_goals first | exact pm_ret _ (renumD [0]) rfl | (exfalso; omega)
      · refine acalls_of_aw Try.func32 rfl rfl ?_
        repeat' first
          | refine st ?_
          | refine st_call (HW) ?_
          | refine stMW [0] HG ?_
          | refine stm ?_
          | refine run_want rfl rfl ?_
          | refine run_unwant rfl rfl ?_
          | refine run_undef rfl rfl ?_
          | refine run_guard1t rfl rfl (by omega) ?_
          | refine run_guard1f rfl rfl (by omega) ?_
          | refine run_guard0t rfl rfl (by omega) ?_
          | refine run_guard0f rfl rfl (by omega) ?_
          | refine run_guard1 rfl rfl (fun h1 => ?_) (fun h1 => ?_)
          | refine run_guard0 rfl rfl (fun h1 => ?_) (fun h1 => ?_)
          | refine run_guard rfl rfl (fun h1 => ?_) (fun h1 => ?_)
          | refine run_nil ?_
          | refine aw_seq ?_
          | refine aw_region (by kernel_rfl) (Nat.le_of_ble_eq_true rfl) ?_
          | refine aw_block ?_
          | refine aw_cond_t rfl ?_
          | refine aw_cond_f rfl ?_
          | refine aw_cond_tp rfl (by omega) ?_
          | refine aw_cond_fp rfl (by omega) ?_
          | refine aw_cond1 rfl (fun h1 => ?_) (fun h1 => ?_)
          | refine aw_cond rfl (fun h1 => ?_) (fun h1 => ?_)
          | refine aw_skip ?_
          | refine aw_exit ?_
          | refine aw_ret ?_
          | refine pp_ret ?_
          | refine pp_normal ?_
        all_goals first | exact pm_ret _ (renumD [0]) rfl | (exfalso; omega)
end Go.Proofs.Ytmmaolnjjjdecaa
