/- Bits: texts are written. -/
import Derived.Test.YtmmaolnjjjdecaaC6
set_option linter.unusedVariables false
set_option linter.unusedSimpArgs false
namespace Go.Proofs.Ytmmaolnjjjdecaa
open Go Av
set_option maxRecDepth 20000
def strBits (s : ByteArray) : Nat → List Int
  | 0 => []
  | i + 1 => strBits s i ++ bitsOf 8 (byteAt s i).toNat
theorem strBits_len (s i) : (strBits s i).length = 8 * i := by induction i with
  | zero => rfl
  | succ i ih => rw [strBits, List.length_append, ih, bitsOf_len]; omega
def txtW (bs : List Int) (e m : Int) (s : ByteArray) : List Int × Int :=
  if e ≠ 0 then (bs, e) else if ¬ (1 ≤ m ∧ m ≤ 4095) then (bs, 1) else if m < s.size ∨ bs.length + wdth m + 8 * s.size > 524288 then (bs, 8) else (bs ++ bitsOf (wdth m).toNat s.size ++ strBits s s.size, 0)
theorem wdth_bd (m : Int) (h : 0 ≤ m ∧ m ≤ 9223372036854775807) : 1 ≤ wdth m ∧ wdth m ≤ 63 := by
  have := bl_bd m.toNat (by omega)
  unfold wdth
  rw [if_neg (by omega)]
  omega
structure Tg where
  i : Nat
  bs : List Int
  Z : List Int
  n : Nat
  k : Int
set_option maxHeartbeats 2000000 in
theorem ac_text (m : Int) (s : ByteArray) (e e' : Int) (bs bs' Z Z' : List Int) (n n' : Nat) (k k' : Int) (hZ : pack bs = Z) (hn : n = Z.length) (hk : k = bs.length) (hst : txtW bs e m s = (bs', e')) (hZ' : pack bs' = Z') (hn' : n' = Z'.length) (hk' : k' = bs'.length) (hl : bs.length ≤ 524288) (hm : -9223372036854775808 ≤ m ∧ m ≤ 9223372036854775807) (hs : s.size ≤ 1000000) :
    ACalls Try.prog 38 [.pointer (some ⟨0, 0, none⟩), .int .i64 m, .string s] [some ⟨[.slice (some ⟨1, 0, none⟩) n n, .int .i64 k, .int .i64 e], true, 1⟩, some ⟨List.map (Value.int .u8) Z, true, 1⟩] (.tuple #[]) [some ⟨[.slice (some ⟨2, 0, none⟩) n' n', .int .i64 k', .int .i64 e'], true, 1⟩, none, some ⟨List.map (Value.int .u8) Z', true, 1⟩] := by
  unfold txtW at hst
  have HLm := ac_limit m
  by_cases he : e = 0
  · subst he
    rw [if_neg (by simp)] at hst
    by_cases hr : 1 ≤ m ∧ m ≤ 4095
    · rw [if_neg (by simpa using hr)] at hst
      rw [decide_eq_true hr] at HLm
      have HW := ac_width m hm
      have hwb := wdth_bd m (by omega)
      by_cases hf : m < s.size ∨ bs.length + wdth m + 8 * s.size > 524288
      · rw [if_pos hf] at hst
        obtain ⟨rfl, rfl⟩ := Prod.mk.inj hst
        rw [hZ] at hZ'; subst hZ' hn hn' hk hk'
        refine acalls_of_aw Try.func38 rfl rfl ?_
        repeat' first
          | refine st ?_
          | refine st_call (HLm) ?_
          | refine st_call (HW) ?_
          | refine stm ?_
          | refine run_want rfl rfl ?_
          | refine run_unwant rfl rfl ?_
          | refine run_undef rfl rfl ?_
          | refine run_guard1t rfl rfl (by omega) ?_
          | refine run_guard1f rfl rfl (by omega) ?_
          | refine run_guard0t rfl rfl (by omega) ?_
          | refine run_guard0f rfl rfl (by omega) ?_
          | refine run_guard1 rfl rfl (fun h1 => ?_) (fun h1 => ?_)
          | refine run_guard0 rfl rfl (fun h1 => ?_) (fun h1 => ?_)
          | refine run_guard rfl rfl (fun h1 => ?_) (fun h1 => ?_)
          | refine run_nil ?_
          | refine sd ?_
          | refine sdl ?_
          | refine sd_call (HLm) ?_
          | refine sd_call (HW) ?_
          | refine sdm ?_
          | refine sdb ?_
          | refine rund_want rfl rfl ?_
          | refine rund_unwant rfl rfl ?_
          | refine rund_undef rfl rfl ?_
          | refine rund_guard1 rfl rfl (fun h1 => ?_) (fun h1 => ?_)
          | refine rund_guard0 rfl rfl (fun h1 => ?_) (fun h1 => ?_)
          | refine rund_guard rfl rfl (fun h1 => ?_) (fun h1 => ?_)
          | refine rund_nil ?_
          | refine aw_seq ?_
          | refine aw_region (by kernel_rfl) (Nat.le_of_ble_eq_true rfl) ?_
          | refine aw_region_d (id := 9) [0, 1, 0, 7, 15, 31, 63, 127, 255, 31, 543, 2047, 31, 4127, 12319, 32767, 65535, 131071, 262143] 19 (by kernel_rfl) (by kernel_rfl) (by kernel_rfl) (Nat.le_of_ble_eq_true rfl) ?_
          | refine aw_block ?_
          | refine aw_cond_t rfl ?_
          | refine aw_cond_f rfl ?_
          | refine aw_cond_tp rfl (by omega) ?_
          | refine aw_cond_fp rfl (by omega) ?_
          | refine aw_cond1 rfl (fun h1 => ?_) (fun h1 => ?_)
          | refine aw_cond rfl (fun h1 => ?_) (fun h1 => ?_)
          | refine aw_skip ?_
          | refine aw_exit ?_
          | refine aw_ret ?_
          | refine pp_ret ?_
          | refine pp_normal ?_
        all_goals first | exact pm_normal _ (renumD [0, 1, 1]) rfl | (exfalso; omega)
      · rw [if_neg hf] at hst
        obtain ⟨hb, rfl⟩ := Prod.mk.inj hst
        obtain ⟨bs1, hb1⟩ : ∃ bs1, bs ++ bitsOf (wdth m).toNat (s.size : Int) = bs1 := ⟨_, rfl⟩
        obtain ⟨Z1, hZ1⟩ : ∃ Z1, pack bs1 = Z1 := ⟨_, rfl⟩
        have hl1 := congrArg List.length hb1
        rw [List.length_append, bitsOf_len] at hl1
        have HP := ac_put (wdth m).toNat (s.size : Int) 0 bs bs1 Z Z1 n Z1.length k bs1.length (by omega) (by omega) hZ hn hk hb1 hZ1 rfl rfl (by omega)
        rw [show (((wdth m).toNat : Nat) : Int) = wdth m by omega] at HP
        rw [hb1] at hb
        have hl2 := congrArg List.length hb
        rw [List.length_append, strBits_len] at hl2
        refine acalls_of_aw Try.func38 rfl rfl ?_
        repeat' first
          | refine st ?_
          | refine st_call (HLm) ?_
          | refine st_call (HW) ?_
          | refine stMW [0, 1] HP ?_
          | refine stm ?_
          | refine run_want rfl rfl ?_
          | refine run_unwant rfl rfl ?_
          | refine run_undef rfl rfl ?_
          | refine run_guard1t rfl rfl (by omega) ?_
          | refine run_guard1f rfl rfl (by omega) ?_
          | refine run_guard0t rfl rfl (by omega) ?_
          | refine run_guard0f rfl rfl (by omega) ?_
          | refine run_guard1 rfl rfl (fun h1 => ?_) (fun h1 => ?_)
          | refine run_guard0 rfl rfl (fun h1 => ?_) (fun h1 => ?_)
          | refine run_guard rfl rfl (fun h1 => ?_) (fun h1 => ?_)
          | refine run_nil ?_
          | refine sd ?_
          | refine sdl ?_
          | refine sd_call (HLm) ?_
          | refine sd_call (HW) ?_
          | refine sdm ?_
          | refine sdb ?_
          | refine rund_want rfl rfl ?_
          | refine rund_unwant rfl rfl ?_
          | refine rund_undef rfl rfl ?_
          | refine rund_guard1 rfl rfl (fun h1 => ?_) (fun h1 => ?_)
          | refine rund_guard0 rfl rfl (fun h1 => ?_) (fun h1 => ?_)
          | refine rund_guard rfl rfl (fun h1 => ?_) (fun h1 => ?_)
          | refine rund_nil ?_
          | refine aw_seq ?_
          | refine aw_region (by kernel_rfl) (Nat.le_of_ble_eq_true rfl) ?_
          | refine aw_region_d (id := 9) [0, 1, 0, 7, 15, 31, 63, 127, 255, 31, 543, 2047, 31, 4127, 12319, 32767, 65535, 131071, 262143] 19 (by kernel_rfl) (by kernel_rfl) (by kernel_rfl) (Nat.le_of_ble_eq_true rfl) ?_
          | refine aw_block ?_
          | refine aw_cond_t rfl ?_
          | refine aw_cond_f rfl ?_
          | refine aw_cond_tp rfl (by omega) ?_
          | refine aw_cond_fp rfl (by omega) ?_
          | refine aw_cond1 rfl (fun h1 => ?_) (fun h1 => ?_)
          | refine aw_cond rfl (fun h1 => ?_) (fun h1 => ?_)
          | refine aw_skip ?_
          | refine aw_exit ?_
          | refine aw_ret ?_
          | refine pp_ret ?_
          | refine pp_normal ?_
        refine aw_loopg
          (S := fun y : Tg => [(0, .pointer (some ⟨0, 0, none⟩)), (2, .string s), (15, .int .i64 s.size), (16, .int .i64 y.i)])
          (B := fun y : Tg => [some ⟨[.slice (some ⟨2, 0, none⟩) y.n y.n, .int .i64 y.k, .int .i64 0], true, 1⟩, none, some ⟨List.map (Value.int .u8) y.Z, true, 1⟩])
          (R := fun y : Tg => y.i ≤ s.size ∧ y.bs = bs1 ++ strBits s y.i ∧ pack y.bs = y.Z ∧ y.n = y.Z.length ∧ y.k = y.bs.length)
          (μ := fun y : Tg => s.size - y.i) ⟨0, bs1, Z1, Z1.length, bs1.length⟩ (fitsD [0, 1, 2]) ⟨Nat.zero_le _, by simp [strBits], hZ1, rfl, rfl⟩ ?_
        clear HP hZ hn hk
        rintro ⟨i, bs2, Z2, n2, k2⟩ ⟨g1, g2, g3, g4, g5⟩
        dsimp only at *
        have hl3 := congrArg List.length g2
        rw [List.length_append, strBits_len] at hl3
        by_cases hi : i < s.size
        · obtain ⟨c, hc⟩ : ∃ c, byteAt s i = c := ⟨_, rfl⟩
          have hcl := c.toNat_lt
          obtain ⟨bs3, hb3⟩ : ∃ bs3, bs2 ++ bitsOf 8 (c.toNat : Int) = bs3 := ⟨_, rfl⟩
          obtain ⟨Z3, hZ3⟩ : ∃ Z3, pack bs3 = Z3 := ⟨_, rfl⟩
          have hl4 := congrArg List.length hb3
          rw [List.length_append, bitsOf_len] at hl4
          have HQ := ac_put 8 (c.toNat : Int) 0 bs2 bs3 Z2 Z3 n2 Z3.length k2 bs3.length (by omega) (by omega) g3 g4 g5 hb3 hZ3 rfl rfl (by omega)
          rw [← hc] at HQ
          repeat' first
            | refine st (h := ok_conv_u8 rfl (by decide)) ?_
            | refine st ?_
            | refine stMW [0, 2] HQ ?_
            | refine stm ?_
            | refine run_want rfl rfl ?_
            | refine run_unwant rfl rfl ?_
            | refine run_undef rfl rfl ?_
            | refine run_guard1t rfl rfl (by omega) ?_
            | refine run_guard1f rfl rfl (by omega) ?_
            | refine run_guard0t rfl rfl (by omega) ?_
            | refine run_guard0f rfl rfl (by omega) ?_
            | refine run_guard1 rfl rfl (fun h1 => ?_) (fun h1 => ?_)
            | refine run_guard0 rfl rfl (fun h1 => ?_) (fun h1 => ?_)
            | refine run_guard rfl rfl (fun h1 => ?_) (fun h1 => ?_)
            | refine run_nil ?_
            | refine sd ?_
            | refine sdl ?_
            | refine sdm ?_
            | refine sdb ?_
            | refine rund_want rfl rfl ?_
            | refine rund_unwant rfl rfl ?_
            | refine rund_undef rfl rfl ?_
            | refine rund_guard1 rfl rfl (fun h1 => ?_) (fun h1 => ?_)
            | refine rund_guard0 rfl rfl (fun h1 => ?_) (fun h1 => ?_)
            | refine rund_guard rfl rfl (fun h1 => ?_) (fun h1 => ?_)
            | refine rund_nil ?_
            | refine aw_seq ?_
            | refine aw_region (by kernel_rfl) (Nat.le_of_ble_eq_true rfl) ?_
            | refine aw_region_d (id := 9) [0, 1, 0, 7, 15, 31, 63, 127, 255, 31, 543, 2047, 31, 4127, 12319, 32767, 65535, 131071, 262143] 19 (by kernel_rfl) (by kernel_rfl) (by kernel_rfl) (Nat.le_of_ble_eq_true rfl) ?_
            | refine aw_block ?_
            | refine aw_cond_t rfl ?_
            | refine aw_cond_f rfl ?_
            | refine aw_cond_tp rfl (by omega) ?_
            | refine aw_cond_fp rfl (by omega) ?_
            | refine aw_cond1 rfl (fun h1 => ?_) (fun h1 => ?_)
            | refine aw_cond rfl (fun h1 => ?_) (fun h1 => ?_)
            | refine aw_skip ?_
            | refine aw_exit ?_
            | refine aw_ret ?_
            | refine pp_ret ?_
            | refine pp_normal ?_
          refine Exists.intro ⟨i + 1, bs3, Z3, Z3.length, bs3.length⟩ ⟨fitsD [0, 1, 3], ⟨hi, by dsimp only; rw [strBits, ← List.append_assoc, ← g2, hc, hb3], hZ3, rfl, rfl⟩, by dsimp only; omega⟩
        · obtain rfl : i = s.size := by omega
          repeat' first
            | refine st ?_
            | refine stm ?_
            | refine run_want rfl rfl ?_
            | refine run_unwant rfl rfl ?_
            | refine run_undef rfl rfl ?_
            | refine run_guard1t rfl rfl (by omega) ?_
            | refine run_guard1f rfl rfl (by omega) ?_
            | refine run_guard0t rfl rfl (by omega) ?_
            | refine run_guard0f rfl rfl (by omega) ?_
            | refine run_guard1 rfl rfl (fun h1 => ?_) (fun h1 => ?_)
            | refine run_guard0 rfl rfl (fun h1 => ?_) (fun h1 => ?_)
            | refine run_guard rfl rfl (fun h1 => ?_) (fun h1 => ?_)
            | refine run_nil ?_
            | refine sd ?_
            | refine sdl ?_
            | refine sdm ?_
            | refine sdb ?_
            | refine rund_want rfl rfl ?_
            | refine rund_unwant rfl rfl ?_
            | refine rund_undef rfl rfl ?_
            | refine rund_guard1 rfl rfl (fun h1 => ?_) (fun h1 => ?_)
            | refine rund_guard0 rfl rfl (fun h1 => ?_) (fun h1 => ?_)
            | refine rund_guard rfl rfl (fun h1 => ?_) (fun h1 => ?_)
            | refine rund_nil ?_
            | refine aw_seq ?_
            | refine aw_region (by kernel_rfl) (Nat.le_of_ble_eq_true rfl) ?_
            | refine aw_region_d (id := 9) [0, 1, 0, 7, 15, 31, 63, 127, 255, 31, 543, 2047, 31, 4127, 12319, 32767, 65535, 131071, 262143] 19 (by kernel_rfl) (by kernel_rfl) (by kernel_rfl) (Nat.le_of_ble_eq_true rfl) ?_
            | refine aw_block ?_
            | refine aw_cond_t rfl ?_
            | refine aw_cond_f rfl ?_
            | refine aw_cond_tp rfl (by omega) ?_
            | refine aw_cond_fp rfl (by omega) ?_
            | refine aw_cond1 rfl (fun h1 => ?_) (fun h1 => ?_)
            | refine aw_cond rfl (fun h1 => ?_) (fun h1 => ?_)
            | refine aw_skip ?_
            | refine aw_exit ?_
            | refine aw_ret ?_
            | refine pp_ret ?_
            | refine pp_normal ?_
          have hbb : bs2 = bs' := by rw [g2]; exact hb
          subst hbb
          rw [g3] at hZ'
          subst hZ' g4 hn' g5 hk'
          exact pm_normal _ (renumD [0, 1, 2]) rfl
        exfalso
        omega
    · rw [if_pos (by simpa using hr)] at hst
      rw [decide_eq_false hr] at HLm
      obtain ⟨rfl, rfl⟩ := Prod.mk.inj hst
      rw [hZ] at hZ'; subst hZ' hn hn' hk hk'
      refine acalls_of_aw Try.func38 rfl rfl ?_
      repeat' first
        | refine st ?_
        | refine st_call (HLm) ?_
        | refine stm ?_
        | refine run_want rfl rfl ?_
        | refine run_unwant rfl rfl ?_
        | refine run_undef rfl rfl ?_
        | refine run_guard1t rfl rfl (by omega) ?_
        | refine run_guard1f rfl rfl (by omega) ?_
        | refine run_guard0t rfl rfl (by omega) ?_
        | refine run_guard0f rfl rfl (by omega) ?_
        | refine run_guard1 rfl rfl (fun h1 => ?_) (fun h1 => ?_)
        | refine run_guard0 rfl rfl (fun h1 => ?_) (fun h1 => ?_)
        | refine run_guard rfl rfl (fun h1 => ?_) (fun h1 => ?_)
        | refine run_nil ?_
        | refine sd ?_
        | refine sdl ?_
        | refine sd_call (HLm) ?_
        | refine sdm ?_
        | refine sdb ?_
        | refine rund_want rfl rfl ?_
        | refine rund_unwant rfl rfl ?_
        | refine rund_undef rfl rfl ?_
        | refine rund_guard1 rfl rfl (fun h1 => ?_) (fun h1 => ?_)
        | refine rund_guard0 rfl rfl (fun h1 => ?_) (fun h1 => ?_)
        | refine rund_guard rfl rfl (fun h1 => ?_) (fun h1 => ?_)
        | refine rund_nil ?_
        | refine aw_seq ?_
        | refine aw_region (by kernel_rfl) (Nat.le_of_ble_eq_true rfl) ?_
        | refine aw_region_d (id := 9) [0, 1, 0, 7, 15, 31, 63, 127, 255, 31, 543, 2047, 31, 4127, 12319, 32767, 65535, 131071, 262143] 19 (by kernel_rfl) (by kernel_rfl) (by kernel_rfl) (Nat.le_of_ble_eq_true rfl) ?_
        | refine aw_block ?_
        | refine aw_cond_t rfl ?_
        | refine aw_cond_f rfl ?_
        | refine aw_cond_tp rfl (by omega) ?_
        | refine aw_cond_fp rfl (by omega) ?_
        | refine aw_cond1 rfl (fun h1 => ?_) (fun h1 => ?_)
        | refine aw_cond rfl (fun h1 => ?_) (fun h1 => ?_)
        | refine aw_skip ?_
        | refine aw_exit ?_
        | refine aw_ret ?_
        | refine pp_ret ?_
        | refine pp_normal ?_
      exact pm_normal _ (renumD [0, 1, 1]) rfl
  · rw [if_pos he] at hst
    obtain ⟨rfl, rfl⟩ := Prod.mk.inj hst
    rw [hZ] at hZ'; subst hZ' hn hn' hk hk'
    refine acalls_of_aw Try.func38 rfl rfl ?_
    repeat' first
      | refine st ?_
      | refine stm ?_
      | refine run_want rfl rfl ?_
      | refine run_unwant rfl rfl ?_
      | refine run_undef rfl rfl ?_
      | refine run_guard1t rfl rfl (by omega) ?_
      | refine run_guard1f rfl rfl (by omega) ?_
      | refine run_guard0t rfl rfl (by omega) ?_
      | refine run_guard0f rfl rfl (by omega) ?_
      | refine run_guard1 rfl rfl (fun h1 => ?_) (fun h1 => ?_)
      | refine run_guard0 rfl rfl (fun h1 => ?_) (fun h1 => ?_)
      | refine run_guard rfl rfl (fun h1 => ?_) (fun h1 => ?_)
      | refine run_nil ?_
      | refine sd ?_
      | refine sdl ?_
      | refine sdm ?_
      | refine sdb ?_
      | refine rund_want rfl rfl ?_
      | refine rund_unwant rfl rfl ?_
      | refine rund_undef rfl rfl ?_
      | refine rund_guard1 rfl rfl (fun h1 => ?_) (fun h1 => ?_)
      | refine rund_guard0 rfl rfl (fun h1 => ?_) (fun h1 => ?_)
      | refine rund_guard rfl rfl (fun h1 => ?_) (fun h1 => ?_)
      | refine rund_nil ?_
      | refine aw_seq ?_
      | refine aw_region (by kernel_rfl) (Nat.le_of_ble_eq_true rfl) ?_
      | refine aw_region_d (id := 9) [0, 1, 0, 7, 15, 31, 63, 127, 255, 31, 543, 2047, 31, 4127, 12319, 32767, 65535, 131071, 262143] 19 (by kernel_rfl) (by kernel_rfl) (by kernel_rfl) (Nat.le_of_ble_eq_true rfl) ?_
      | refine aw_block ?_
      | refine aw_cond_t rfl ?_
      | refine aw_cond_f rfl ?_
      | refine aw_cond_tp rfl (by omega) ?_
      | refine aw_cond_fp rfl (by omega) ?_
      | refine aw_cond1 rfl (fun h1 => ?_) (fun h1 => ?_)
      | refine aw_cond rfl (fun h1 => ?_) (fun h1 => ?_)
      | refine aw_skip ?_
      | refine aw_exit ?_
      | refine aw_ret ?_
      | refine pp_ret ?_
      | refine pp_normal ?_
    exact pm_normal _ (renumD [0, 1, 1]) rfl
end Go.Proofs.Ytmmaolnjjjdecaa
