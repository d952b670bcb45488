/- Bits: texts are read. -/
import Derived.Test.YtmmaolnjjjdecaaD5
import Derived.Test.YtmmaolnjjjdecaaC7
import Derived.Test.YtmmaolnjjjdecaaV20
set_option linter.unusedVariables false
set_option linter.unusedSimpArgs false
namespace Go.Proofs.Ytmmaolnjjjdecaa
open Go Av
set_option maxRecDepth 20000
/-- The bytes that stand from a bit on. -/
def rdB (d : ByteArray) (a : Nat) : Nat → List Int
  | 0 => []
  | n + 1 => rdB d a n ++ [rdN d (a + 8 * n) 8]
theorem rdB_len (d a) : ∀ n, (rdB d a n).length = n
  | 0 => rfl
  | n + 1 => by rw [rdB, List.length_append, rdB_len d a n]; rfl
theorem rdB_rng (d a) : ∀ n, ∀ z ∈ rdB d a n, 0 ≤ z ∧ z ≤ 255
  | 0, z, h => by cases h
  | n + 1, z, h => by
    rw [rdB, List.mem_append] at h
    rcases h with h | h
    · exact rdB_rng d a n z h
    · rw [List.mem_singleton] at h
      have := rdN_bd d (a + 8 * n) 8
      omega
/-- What a reader gives for a text; where it is then; its error. -/
def txtR (d : ByteArray) (a : Nat) (e m : Int) : ByteArray × Nat × Int :=
  if (fieldR d a e (decide (1 ≤ m ∧ m ≤ 4095)) (wdth m)).2.2 ≠ 0 then (⟨#[]⟩, (fieldR d a e (decide (1 ≤ m ∧ m ≤ 4095)) (wdth m)).2)
  else if m < (fieldR d a e (decide (1 ≤ m ∧ m ≤ 4095)) (wdth m)).1 then (⟨#[]⟩, (fieldR d a e (decide (1 ≤ m ∧ m ≤ 4095)) (wdth m)).2.1, 2)
  else if (8 * d.size : Int) - (fieldR d a e (decide (1 ≤ m ∧ m ≤ 4095)) (wdth m)).2.1 < 8 * (fieldR d a e (decide (1 ≤ m ∧ m ≤ 4095)) (wdth m)).1 then (⟨#[]⟩, (fieldR d a e (decide (1 ≤ m ∧ m ≤ 4095)) (wdth m)).2.1, 9)
  else (⟨((rdB d (fieldR d a e (decide (1 ≤ m ∧ m ≤ 4095)) (wdth m)).2.1 (fieldR d a e (decide (1 ≤ m ∧ m ≤ 4095)) (wdth m)).1.toNat).map b8).toArray⟩, (fieldR d a e (decide (1 ≤ m ∧ m ≤ 4095)) (wdth m)).2.1 + 8 * (fieldR d a e (decide (1 ≤ m ∧ m ≤ 4095)) (wdth m)).1.toNat, 0)
structure Xg where
  i : Nat
  Z : List Int
set_option maxHeartbeats 2000000 in
theorem ac_txtR (m e e' : Int) (t : ByteArray) (a a' : Nat) (d : ByteArray) (hst : txtR d a e m = (t, a', e')) (ha : a ≤ 8 * d.size) (hd : d.size ≤ 1000000) (hm : -9223372036854775808 ≤ m ∧ m ≤ 9223372036854775807) :
    ACalls Try.prog 42 [.pointer (some ⟨0, 0, none⟩), .int .i64 m] [some ⟨[.string d, .int .i64 (a : Int), .int .i64 e], true, 1⟩] (.string t) [some ⟨[.string d, .int .i64 (a' : Int), .int .i64 e'], true, 1⟩] := by
  unfold txtR at hst
  have HW := ac_width m hm
  obtain ⟨v, a1, e1, hf⟩ : ∃ v a1 e1, fieldR d a e (decide (1 ≤ m ∧ m ≤ 4095)) (wdth m) = (v, a1, e1) := ⟨_, _, _, rfl⟩
  rw [hf] at hst
  dsimp only at hst
  have hwd : 1 ≤ m → 1 ≤ wdth m ∧ wdth m ≤ 63 := fun h => wdth_bd m (by omega)
  have hv := fieldR_bd hf (by simp; omega)
  have HF := ac_fieldR _ _ e e1 v a a1 d hf ha hd (by simp; omega)
  have hcs := fieldR_cases hf
  by_cases he1 : e1 = 0
  · rw [if_neg (by simpa using he1)] at hst
    obtain ⟨c1, c2, c3, c4, c5, c6⟩ : e1 = 0 ∧ e = 0 ∧ decide (1 ≤ m ∧ m ≤ 4095) = true ∧ a1 = a + (wdth m).toNat ∧ v = rdN d a (wdth m).toNat ∧ wdth m ≤ 8 * d.size - a := by
      rcases hcs with h | h
      · exact absurd he1 h.1
      · exact h
    have c3 := of_decide_eq_true c3
    have hwd := hwd c3.1
    subst e1
    have HL := ac_left a1 d (by omega) hd
    by_cases h2 : m < v
    · rw [if_pos h2] at hst
      simp only [Prod.mk.injEq] at hst
      obtain ⟨rfl, rfl, rfl⟩ := hst
      have HX := ac_rfail a1 0 2 d
      refine acalls_of_aw Try.func42 rfl rfl ?_
      repeat' first
        | refine st ?_
        | refine st_call (ac_limit m) ?_
        | refine st_call (HW) ?_
        | refine stMW [0] HF ?_
        | refine stMW [0] HX ?_
        | refine st (h := ok_makeFunc (by ((repeat (apply ArgsR.cons; rfl)); exact ArgsR.nil)) (by ((repeat (apply ArgsR.cons; rfl)); exact ArgsR.nil))) ?_
        | refine stm ?_
        | refine run_want rfl rfl ?_
        | refine run_unwant rfl rfl ?_
        | refine run_undef rfl rfl ?_
        | refine run_guard1t rfl rfl (by omega) ?_
        | refine run_guard1f rfl rfl (by omega) ?_
        | refine run_guard0t rfl rfl (by omega) ?_
        | refine run_guard0f rfl rfl (by omega) ?_
        | refine run_guard1 rfl rfl (fun h1 => ?_) (fun h1 => ?_)
        | refine run_guard0 rfl rfl (fun h1 => ?_) (fun h1 => ?_)
        | refine run_guard rfl rfl (fun h1 => ?_) (fun h1 => ?_)
        | refine run_nil ?_
        | refine aw_seq ?_
        | refine aw_region (by kernel_rfl) (Nat.le_of_ble_eq_true rfl) ?_
        | refine aw_block ?_
        | refine aw_cond_t rfl ?_
        | refine aw_cond_f rfl ?_
        | refine aw_cond_tp rfl (by omega) ?_
        | refine aw_cond_fp rfl (by omega) ?_
        | refine aw_cond1 rfl (fun h1 => ?_) (fun h1 => ?_)
        | refine aw_cond rfl (fun h1 => ?_) (fun h1 => ?_)
        | refine aw_skip ?_
        | refine aw_exit ?_
        | refine aw_ret ?_
        | refine pp_ret ?_
        | refine pp_normal ?_
      all_goals first | exact pm_ret _ (renumD [0]) rfl | (exfalso; omega)
    · rw [if_neg h2] at hst
      by_cases h3 : (8 * d.size : Int) - a1 < 8 * v
      · rw [if_pos h3] at hst
        simp only [Prod.mk.injEq] at hst
        obtain ⟨rfl, rfl, rfl⟩ := hst
        have HX := ac_rfail a1 0 9 d
        refine acalls_of_aw Try.func42 rfl rfl ?_
        repeat' first
          | refine st ?_
          | refine st_call (ac_limit m) ?_
          | refine st_call (HW) ?_
          | refine stMW [0] HF ?_
          | refine stRW [0] HL ?_
          | refine stMW [0] HX ?_
          | refine st (h := ok_makeFunc (by ((repeat (apply ArgsR.cons; rfl)); exact ArgsR.nil)) (by ((repeat (apply ArgsR.cons; rfl)); exact ArgsR.nil))) ?_
          | refine stm ?_
          | refine run_want rfl rfl ?_
          | refine run_unwant rfl rfl ?_
          | refine run_undef rfl rfl ?_
          | refine run_guard1t rfl rfl (by omega) ?_
          | refine run_guard1f rfl rfl (by omega) ?_
          | refine run_guard0t rfl rfl (by omega) ?_
          | refine run_guard0f rfl rfl (by omega) ?_
          | refine run_guard1 rfl rfl (fun h1 => ?_) (fun h1 => ?_)
          | refine run_guard0 rfl rfl (fun h1 => ?_) (fun h1 => ?_)
          | refine run_guard rfl rfl (fun h1 => ?_) (fun h1 => ?_)
          | refine run_nil ?_
          | refine aw_seq ?_
          | refine aw_region (by kernel_rfl) (Nat.le_of_ble_eq_true rfl) ?_
          | refine aw_block ?_
          | refine aw_cond_t rfl ?_
          | refine aw_cond_f rfl ?_
          | refine aw_cond_tp rfl (by omega) ?_
          | refine aw_cond_fp rfl (by omega) ?_
          | refine aw_cond1 rfl (fun h1 => ?_) (fun h1 => ?_)
          | refine aw_cond rfl (fun h1 => ?_) (fun h1 => ?_)
          | refine aw_skip ?_
          | refine aw_exit ?_
          | refine aw_ret ?_
          | refine pp_ret ?_
          | refine pp_normal ?_
        all_goals first | exact pm_ret _ (renumD [0]) rfl | (exfalso; omega)
      · rw [if_neg h3] at hst
        simp only [Prod.mk.injEq] at hst
        obtain ⟨ht, ha', rfl⟩ := hst
        obtain ⟨N, hN⟩ : ∃ N, v.toNat = N := ⟨_, rfl⟩
        rw [hN] at ht ha'
        clear c5 hf hcs
        refine acalls_of_aw Try.func42 rfl rfl ?_
        repeat' first
          | refine st ?_
          | refine st_call (ac_limit m) ?_
          | refine st_call (HW) ?_
          | refine stMW [0] HF ?_
          | refine stRW [0] HL ?_
          | refine st (h := ok_makeFunc (by ((repeat (apply ArgsR.cons; rfl)); exact ArgsR.nil)) (by ((repeat (apply ArgsR.cons; rfl)); exact ArgsR.nil))) ?_
          | refine stm ?_
          | refine run_want rfl rfl ?_
          | refine run_unwant rfl rfl ?_
          | refine run_undef rfl rfl ?_
          | refine run_guard1t rfl rfl (by omega) ?_
          | refine run_guard1f rfl rfl (by omega) ?_
          | refine run_guard0t rfl rfl (by omega) ?_
          | refine run_guard0f rfl rfl (by omega) ?_
          | refine run_guard1 rfl rfl (fun h1 => ?_) (fun h1 => ?_)
          | refine run_guard0 rfl rfl (fun h1 => ?_) (fun h1 => ?_)
          | refine run_guard rfl rfl (fun h1 => ?_) (fun h1 => ?_)
          | refine run_nil ?_
          | refine aw_seq ?_
          | refine aw_region (by kernel_rfl) (Nat.le_of_ble_eq_true rfl) ?_
          | refine aw_block ?_
          | refine aw_cond_t rfl ?_
          | refine aw_cond_f rfl ?_
          | refine aw_cond_tp rfl (by omega) ?_
          | refine aw_cond_fp rfl (by omega) ?_
          | refine aw_cond1 rfl (fun h1 => ?_) (fun h1 => ?_)
          | refine aw_cond rfl (fun h1 => ?_) (fun h1 => ?_)
          | refine aw_skip ?_
          | refine aw_exit ?_
          | refine aw_ret ?_
          | refine pp_ret ?_
          | refine pp_normal ?_
        rw [hN]
        refine aw_loopg
          (S := fun y : Xg => [(6, .func (.func 48) #[.pointer (some ⟨0, 0, none⟩)] #[]), (7, .slice (some ⟨1, 0, none⟩) N N), (41, .int .i64 N), (42, .int .i64 y.i)])
          (B := fun y : Xg => [some ⟨[.string d, .int .i64 ((a1 + 8 * y.i : Nat) : Int), .int .i64 0], true, 1⟩, some ⟨List.map (Value.int .u8) y.Z, true, 1⟩])
          (R := fun y : Xg => y.i ≤ N ∧ y.Z = rdB d a1 y.i ++ List.replicate (N - y.i) 0)
          (μ := fun y : Xg => N - y.i) ⟨0, List.replicate N 0⟩ (fitsD [0, 1] (h4 := .blk rfl (WkL.refl _) rfl (.blk rfl (.ofEq (by refine Eq.trans ?_ (renL_map (fun _ => rfl) _).symm; rw [List.map_replicate])) rfl .nil))) ⟨Nat.zero_le _, rfl⟩ ?_
        rintro ⟨i, Z⟩ ⟨g1, g2⟩
        dsimp only at *
        have hZl : Z.length = N := by rw [g2, List.length_append, rdB_len, List.length_replicate]; omega
        by_cases hi : i < N
        · have HG := ac_get 8 (a1 + 8 * i) d 0 (by omega) (by omega) hd
          have hb := rdN_bd d (a1 + 8 * i) 8
          generalize hc : rdN d (a1 + 8 * i) 8 = c at HG hb
          repeat' first
            | refine st (h := ok_conv_in rfl (show IntKind.u8.min ≤ c by simp [IntKind.min, IntKind.signed]; omega) (show c ≤ IntKind.u8.max by simp [IntKind.max, IntKind.signed, IntKind.bits]; omega)) ?_
            | refine st ?_
            | refine stMW [0] HG ?_
            | refine st (h := ok_makeFunc (by ((repeat (apply ArgsR.cons; rfl)); exact ArgsR.nil)) (by ((repeat (apply ArgsR.cons; rfl)); exact ArgsR.nil))) ?_
            | refine stm ?_
            | refine run_want rfl rfl ?_
            | refine run_unwant rfl rfl ?_
            | refine run_undef rfl rfl ?_
            | refine run_guard1t rfl rfl (by omega) ?_
            | refine run_guard1f rfl rfl (by omega) ?_
            | refine run_guard0t rfl rfl (by omega) ?_
            | refine run_guard0f rfl rfl (by omega) ?_
            | refine run_guard1 rfl rfl (fun h1 => ?_) (fun h1 => ?_)
            | refine run_guard0 rfl rfl (fun h1 => ?_) (fun h1 => ?_)
            | refine run_guard rfl rfl (fun h1 => ?_) (fun h1 => ?_)
            | refine run_nil ?_
            | refine aw_seq ?_
            | refine aw_region (by kernel_rfl) (Nat.le_of_ble_eq_true rfl) ?_
            | refine aw_block ?_
            | refine aw_cond_t rfl ?_
            | refine aw_cond_f rfl ?_
            | refine aw_cond_tp rfl (by omega) ?_
            | refine aw_cond_fp rfl (by omega) ?_
            | refine aw_cond1 rfl (fun h1 => ?_) (fun h1 => ?_)
            | refine aw_cond rfl (fun h1 => ?_) (fun h1 => ?_)
            | refine aw_skip ?_
            | refine aw_exit ?_
            | refine aw_ret ?_
            | refine pp_ret ?_
            | refine pp_normal ?_
          refine Exists.intro ⟨i + 1, Z.set i c⟩ ⟨fitsD [0, 1], ⟨hi, ?_⟩, by dsimp only; omega⟩
          dsimp only
          rw [g2, rdB, hc, List.set_append_right _ _ (by rw [rdB_len]; exact Nat.le_refl _), rdB_len, Nat.sub_self, show N - i = (N - (i + 1)) + 1 by omega, List.replicate_succ, List.append_assoc]
          rfl
        · obtain rfl : i = N := by omega
          have hZ : Z = rdB d a1 i := by rw [g2, Nat.sub_self]; simp
          have hbu := bytes_u8 Z (hZ ▸ rdB_rng d a1 i)
          subst t a'
          rw [← hZ]
          repeat' first
            | refine st (h := ok_bytes_str (l := Z.map b8) rfl rfl (by simp; omega) ((take_full (by simp; omega)).trans hbu)) ?_
            | refine st ?_
            | refine st (h := ok_makeFunc (by ((repeat (apply ArgsR.cons; rfl)); exact ArgsR.nil)) (by ((repeat (apply ArgsR.cons; rfl)); exact ArgsR.nil))) ?_
            | refine stm ?_
            | refine run_want rfl rfl ?_
            | refine run_unwant rfl rfl ?_
            | refine run_undef rfl rfl ?_
            | refine run_guard1t rfl rfl (by omega) ?_
            | refine run_guard1f rfl rfl (by omega) ?_
            | refine run_guard0t rfl rfl (by omega) ?_
            | refine run_guard0f rfl rfl (by omega) ?_
            | refine run_guard1 rfl rfl (fun h1 => ?_) (fun h1 => ?_)
            | refine run_guard0 rfl rfl (fun h1 => ?_) (fun h1 => ?_)
            | refine run_guard rfl rfl (fun h1 => ?_) (fun h1 => ?_)
            | refine run_nil ?_
            | refine aw_seq ?_
            | refine aw_region (by kernel_rfl) (Nat.le_of_ble_eq_true rfl) ?_
            | refine aw_block ?_
            | refine aw_cond_t rfl ?_
            | refine aw_cond_f rfl ?_
            | refine aw_cond_tp rfl (by omega) ?_
            | refine aw_cond_fp rfl (by omega) ?_
            | refine aw_cond1 rfl (fun h1 => ?_) (fun h1 => ?_)
            | refine aw_cond rfl (fun h1 => ?_) (fun h1 => ?_)
            | refine aw_skip ?_
            | refine aw_exit ?_
            | refine aw_ret ?_
            | refine pp_ret ?_
            | refine pp_normal ?_
          exact pm_ret _ (renumD [0]) rfl
  · rw [if_pos he1] at hst
    simp only [Prod.mk.injEq] at hst
    obtain ⟨rfl, rfl, rfl⟩ := hst
    refine acalls_of_aw Try.func42 rfl rfl ?_
    repeat' first
      | refine st ?_
      | refine st_call (ac_limit m) ?_
      | refine st_call (HW) ?_
      | refine stMW [0] HF ?_
      | refine st (h := ok_makeFunc (by ((repeat (apply ArgsR.cons; rfl)); exact ArgsR.nil)) (by ((repeat (apply ArgsR.cons; rfl)); exact ArgsR.nil))) ?_
      | refine stm ?_
      | refine run_want rfl rfl ?_
      | refine run_unwant rfl rfl ?_
      | refine run_undef rfl rfl ?_
      | refine run_guard1t rfl rfl (by omega) ?_
      | refine run_guard1f rfl rfl (by omega) ?_
      | refine run_guard0t rfl rfl (by omega) ?_
      | refine run_guard0f rfl rfl (by omega) ?_
      | refine run_guard1 rfl rfl (fun h1 => ?_) (fun h1 => ?_)
      | refine run_guard0 rfl rfl (fun h1 => ?_) (fun h1 => ?_)
      | refine run_guard rfl rfl (fun h1 => ?_) (fun h1 => ?_)
      | refine run_nil ?_
      | refine aw_seq ?_
      | refine aw_region (by kernel_rfl) (Nat.le_of_ble_eq_true rfl) ?_
      | refine aw_block ?_
      | refine aw_cond_t rfl ?_
      | refine aw_cond_f rfl ?_
      | refine aw_cond_tp rfl (by omega) ?_
      | refine aw_cond_fp rfl (by omega) ?_
      | refine aw_cond1 rfl (fun h1 => ?_) (fun h1 => ?_)
      | refine aw_cond rfl (fun h1 => ?_) (fun h1 => ?_)
      | refine aw_skip ?_
      | refine aw_exit ?_
      | refine aw_ret ?_
      | refine pp_ret ?_
      | refine pp_normal ?_
    all_goals first | exact pm_ret _ (renumD [0]) rfl | (exfalso; omega)
end Go.Proofs.Ytmmaolnjjjdecaa
