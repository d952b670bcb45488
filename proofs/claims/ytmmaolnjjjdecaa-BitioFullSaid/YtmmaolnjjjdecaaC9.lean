/- Bits: the reference writes flags and texts. -/
import Derived.Test.YtmmaolnjjjdecaaC8
import Derived.Test.YtmmaolnjjjdecaaC7
set_option linter.unusedVariables false
set_option linter.unusedSimpArgs false
namespace Go.Proofs.Ytmmaolnjjjdecaa
open Go Av
set_option maxRecDepth 20000
theorem ac_rflag (v : Bool) (e e' : Int) (bs bs' : List Int) (n n' : Nat) (hn : n = bs.length) (hst : flgW bs e v = (bs', e')) (hn' : n' = bs'.length) (hl : bs.length ≤ 524288) :
    ACalls Try.prog 45 [.pointer (some ⟨0, 0, none⟩), .bool v] [some ⟨[.slice (some ⟨1, 0, none⟩) n n, .int .i64 e], true, 1⟩, some ⟨List.map (Value.int .u8) bs, true, 1⟩] (.tuple #[]) [some ⟨[.slice (some ⟨2, 0, none⟩) n' n', .int .i64 e'], true, 1⟩, none, some ⟨List.map (Value.int .u8) bs', true, 1⟩] := by
  unfold flgW fieldW at hst
  by_cases he : e = 0
  · subst he
    rw [if_neg (by simp), if_neg (by simp), if_neg (by simp)] at hst
    by_cases hs : bs.length + (1 : Int) > 524288
    · rw [if_pos hs] at hst
      obtain ⟨rfl, rfl⟩ := Prod.mk.inj hst
      have HR := ac_roomF 1 bs n hn (by omega) hs hl
      subst hn hn'
      refine acalls_of_aw Try.func45 rfl rfl ?_
      repeat' first
        | refine st ?_
        | refine stMW [0, 1] HR ?_
        | refine stm ?_
        | refine run_want rfl rfl ?_
        | refine run_unwant rfl rfl ?_
        | refine run_undef rfl rfl ?_
        | refine run_guard1t rfl rfl (by omega) ?_
        | refine run_guard1f rfl rfl (by omega) ?_
        | refine run_guard0t rfl rfl (by omega) ?_
        | refine run_guard0f rfl rfl (by omega) ?_
        | refine run_guard1 rfl rfl (fun h1 => ?_) (fun h1 => ?_)
        | refine run_guard0 rfl rfl (fun h1 => ?_) (fun h1 => ?_)
        | refine run_guard rfl rfl (fun h1 => ?_) (fun h1 => ?_)
        | refine run_nil ?_
        | refine aw_seq ?_
        | refine aw_region (by kernel_rfl) (Nat.le_of_ble_eq_true rfl) ?_
        | refine aw_block ?_
        | refine aw_cond_t rfl ?_
        | refine aw_cond_f rfl ?_
        | refine aw_cond_tp rfl (by omega) ?_
        | refine aw_cond_fp rfl (by omega) ?_
        | refine aw_cond1 rfl (fun h1 => ?_) (fun h1 => ?_)
        | refine aw_cond rfl (fun h1 => ?_) (fun h1 => ?_)
        | refine aw_skip ?_
        | refine aw_exit ?_
        | refine aw_ret ?_
        | refine pp_ret ?_
        | refine pp_normal ?_
      all_goals first | exact pm_ret _ (renumD [0, 1, 1]) rfl | (exfalso; omega)
    · rw [if_neg hs] at hst
      obtain ⟨hb, rfl⟩ := Prod.mk.inj hst
      have HR := ac_roomT 1 bs n hn (by omega) hs hl
      have hl1 := congrArg List.length hb
      rw [List.length_append, bitsOf_len] at hl1
      cases v
      · have hb2 : bs ++ [0] = bs' := hb
        refine acalls_of_aw Try.func45 rfl rfl ?_
        repeat' first
          | refine st ?_
          | refine stMW [0, 1] HR ?_
          | refine stm ?_
          | refine run_want rfl rfl ?_
          | refine run_unwant rfl rfl ?_
          | refine run_undef rfl rfl ?_
          | refine run_guard1t rfl rfl (by omega) ?_
          | refine run_guard1f rfl rfl (by omega) ?_
          | refine run_guard0t rfl rfl (by omega) ?_
          | refine run_guard0f rfl rfl (by omega) ?_
          | refine run_guard1 rfl rfl (fun h1 => ?_) (fun h1 => ?_)
          | refine run_guard0 rfl rfl (fun h1 => ?_) (fun h1 => ?_)
          | refine run_guard rfl rfl (fun h1 => ?_) (fun h1 => ?_)
          | refine run_nil ?_
          | refine aw_seq ?_
          | refine aw_region (by kernel_rfl) (Nat.le_of_ble_eq_true rfl) ?_
          | refine aw_block ?_
          | refine aw_cond_t rfl ?_
          | refine aw_cond_f rfl ?_
          | refine aw_cond_tp rfl (by omega) ?_
          | refine aw_cond_fp rfl (by omega) ?_
          | refine aw_cond1 rfl (fun h1 => ?_) (fun h1 => ?_)
          | refine aw_cond rfl (fun h1 => ?_) (fun h1 => ?_)
          | refine aw_skip ?_
          | refine aw_exit ?_
          | refine aw_ret ?_
          | refine pp_ret ?_
          | refine pp_normal ?_
        all_goals (
          obtain rfl : n' = n + 1 := by rw [← hb2] at hn'; simp at hn'; omega
          refine pm_normal _ (renumD [0, 1, 3] (h4 := .blk rfl (WkL.refl _) rfl (.hole (.blk rfl (.ofEq (by refine Eq.trans ?_ (renL_map (fun _ => rfl) _).symm; rw [← hb2, List.map_append]; rfl)) rfl .nil)))) rfl)
      · have hb2 : bs ++ [1] = bs' := hb
        refine acalls_of_aw Try.func45 rfl rfl ?_
        repeat' first
          | refine st ?_
          | refine stMW [0, 1] HR ?_
          | refine stm ?_
          | refine run_want rfl rfl ?_
          | refine run_unwant rfl rfl ?_
          | refine run_undef rfl rfl ?_
          | refine run_guard1t rfl rfl (by omega) ?_
          | refine run_guard1f rfl rfl (by omega) ?_
          | refine run_guard0t rfl rfl (by omega) ?_
          | refine run_guard0f rfl rfl (by omega) ?_
          | refine run_guard1 rfl rfl (fun h1 => ?_) (fun h1 => ?_)
          | refine run_guard0 rfl rfl (fun h1 => ?_) (fun h1 => ?_)
          | refine run_guard rfl rfl (fun h1 => ?_) (fun h1 => ?_)
          | refine run_nil ?_
          | refine aw_seq ?_
          | refine aw_region (by kernel_rfl) (Nat.le_of_ble_eq_true rfl) ?_
          | refine aw_block ?_
          | refine aw_cond_t rfl ?_
          | refine aw_cond_f rfl ?_
          | refine aw_cond_tp rfl (by omega) ?_
          | refine aw_cond_fp rfl (by omega) ?_
          | refine aw_cond1 rfl (fun h1 => ?_) (fun h1 => ?_)
          | refine aw_cond rfl (fun h1 => ?_) (fun h1 => ?_)
          | refine aw_skip ?_
          | refine aw_exit ?_
          | refine aw_ret ?_
          | refine pp_ret ?_
          | refine pp_normal ?_
        all_goals (
          obtain rfl : n' = n + 1 := by rw [← hb2] at hn'; simp at hn'; omega
          refine pm_normal _ (renumD [0, 1, 3] (h4 := .blk rfl (WkL.refl _) rfl (.hole (.blk rfl (.ofEq (by refine Eq.trans ?_ (renL_map (fun _ => rfl) _).symm; rw [← hb2, List.map_append]; rfl)) rfl .nil)))) rfl)
  · rw [if_pos he] at hst
    obtain ⟨rfl, rfl⟩ := Prod.mk.inj hst
    have HR := ac_roomE 1 e bs n he
    subst hn hn'
    refine acalls_of_aw Try.func45 rfl rfl ?_
    repeat' first
      | refine st ?_
      | refine stMW [0, 1] HR ?_
      | refine stm ?_
      | refine run_want rfl rfl ?_
      | refine run_unwant rfl rfl ?_
      | refine run_undef rfl rfl ?_
      | refine run_guard1t rfl rfl (by omega) ?_
      | refine run_guard1f rfl rfl (by omega) ?_
      | refine run_guard0t rfl rfl (by omega) ?_
      | refine run_guard0f rfl rfl (by omega) ?_
      | refine run_guard1 rfl rfl (fun h1 => ?_) (fun h1 => ?_)
      | refine run_guard0 rfl rfl (fun h1 => ?_) (fun h1 => ?_)
      | refine run_guard rfl rfl (fun h1 => ?_) (fun h1 => ?_)
      | refine run_nil ?_
      | refine aw_seq ?_
      | refine aw_region (by kernel_rfl) (Nat.le_of_ble_eq_true rfl) ?_
      | refine aw_block ?_
      | refine aw_cond_t rfl ?_
      | refine aw_cond_f rfl ?_
      | refine aw_cond_tp rfl (by omega) ?_
      | refine aw_cond_fp rfl (by omega) ?_
      | refine aw_cond1 rfl (fun h1 => ?_) (fun h1 => ?_)
      | refine aw_cond rfl (fun h1 => ?_) (fun h1 => ?_)
      | refine aw_skip ?_
      | refine aw_exit ?_
      | refine aw_ret ?_
      | refine pp_ret ?_
      | refine pp_normal ?_
    all_goals first | exact pm_ret _ (renumD [0, 1, 1]) rfl | (exfalso; omega)
structure Ug where
  i : Nat
  bs : List Int
  n : Nat
set_option maxHeartbeats 2000000 in
theorem ac_rtext (m : Int) (s : ByteArray) (e e' : Int) (bs bs' : List Int) (n n' : Nat) (hn : n = bs.length) (hst : txtW bs e m s = (bs', e')) (hn' : n' = bs'.length) (hl : bs.length ≤ 524288) (hm : -9223372036854775808 ≤ m ∧ m ≤ 9223372036854775807) (hs : s.size ≤ 1000000) :
    ACalls Try.prog 46 [.pointer (some ⟨0, 0, none⟩), .int .i64 m, .string s] [some ⟨[.slice (some ⟨1, 0, none⟩) n n, .int .i64 e], true, 1⟩, some ⟨List.map (Value.int .u8) bs, true, 1⟩] (.tuple #[]) [some ⟨[.slice (some ⟨2, 0, none⟩) n' n', .int .i64 e'], true, 1⟩, none, some ⟨List.map (Value.int .u8) bs', true, 1⟩] := by
  unfold txtW at hst
  by_cases he : e = 0
  · subst he
    rw [if_neg (by simp)] at hst
    by_cases hr : 1 ≤ m ∧ m ≤ 4095
    · rw [if_neg (by simpa using hr)] at hst
      have HW := ac_rwidth m hm
      have hwb := wdth_bd m (by omega)
      by_cases hf : m < s.size ∨ bs.length + wdth m + 8 * s.size > 524288
      · rw [if_pos hf] at hst
        obtain ⟨rfl, rfl⟩ := Prod.mk.inj hst
        by_cases hf1 : m < s.size
        · subst hn hn'
          refine acalls_of_aw Try.func46 rfl rfl ?_
          repeat' first
            | refine st ?_
            | refine st_call (HW) ?_
            | refine stm ?_
            | refine run_want rfl rfl ?_
            | refine run_unwant rfl rfl ?_
            | refine run_undef rfl rfl ?_
            | refine run_guard1t rfl rfl (by omega) ?_
            | refine run_guard1f rfl rfl (by omega) ?_
            | refine run_guard0t rfl rfl (by omega) ?_
            | refine run_guard0f rfl rfl (by omega) ?_
            | refine run_guard1 rfl rfl (fun h1 => ?_) (fun h1 => ?_)
            | refine run_guard0 rfl rfl (fun h1 => ?_) (fun h1 => ?_)
            | refine run_guard rfl rfl (fun h1 => ?_) (fun h1 => ?_)
            | refine run_nil ?_
            | refine aw_seq ?_
            | refine aw_region (by kernel_rfl) (Nat.le_of_ble_eq_true rfl) ?_
            | refine aw_block ?_
            | refine aw_cond_t rfl ?_
            | refine aw_cond_f rfl ?_
            | refine aw_cond_tp rfl (by omega) ?_
            | refine aw_cond_fp rfl (by omega) ?_
            | refine aw_cond1 rfl (fun h1 => ?_) (fun h1 => ?_)
            | refine aw_cond rfl (fun h1 => ?_) (fun h1 => ?_)
            | refine aw_skip ?_
            | refine aw_exit ?_
            | refine aw_ret ?_
            | refine pp_ret ?_
            | refine pp_normal ?_
          all_goals first | exact pm_ret _ (renumD [0, 1, 1]) rfl | (exfalso; omega)
        · have HR := ac_roomF (wdth m + 8 * s.size) bs n hn (by omega) (by omega) hl
          subst hn hn'
          refine acalls_of_aw Try.func46 rfl rfl ?_
          repeat' first
            | refine st ?_
            | refine st_call (HW) ?_
            | refine stMW [0, 1] HR ?_
            | refine stm ?_
            | refine run_want rfl rfl ?_
            | refine run_unwant rfl rfl ?_
            | refine run_undef rfl rfl ?_
            | refine run_guard1t rfl rfl (by omega) ?_
            | refine run_guard1f rfl rfl (by omega) ?_
            | refine run_guard0t rfl rfl (by omega) ?_
            | refine run_guard0f rfl rfl (by omega) ?_
            | refine run_guard1 rfl rfl (fun h1 => ?_) (fun h1 => ?_)
            | refine run_guard0 rfl rfl (fun h1 => ?_) (fun h1 => ?_)
            | refine run_guard rfl rfl (fun h1 => ?_) (fun h1 => ?_)
            | refine run_nil ?_
            | refine aw_seq ?_
            | refine aw_region (by kernel_rfl) (Nat.le_of_ble_eq_true rfl) ?_
            | refine aw_block ?_
            | refine aw_cond_t rfl ?_
            | refine aw_cond_f rfl ?_
            | refine aw_cond_tp rfl (by omega) ?_
            | refine aw_cond_fp rfl (by omega) ?_
            | refine aw_cond1 rfl (fun h1 => ?_) (fun h1 => ?_)
            | refine aw_cond rfl (fun h1 => ?_) (fun h1 => ?_)
            | refine aw_skip ?_
            | refine aw_exit ?_
            | refine aw_ret ?_
            | refine pp_ret ?_
            | refine pp_normal ?_
          all_goals first | exact pm_ret _ (renumD [0, 1, 1]) rfl | (exfalso; omega)
      · rw [if_neg hf] at hst
        obtain ⟨hb, rfl⟩ := Prod.mk.inj hst
        have HR := ac_roomT (wdth m + 8 * s.size) bs n hn (by omega) (by omega) hl
        obtain ⟨bs1, hb1⟩ : ∃ bs1, bs ++ bitsOf (wdth m).toNat (s.size : Int) = bs1 := ⟨_, rfl⟩
        have hl1 := congrArg List.length hb1
        rw [List.length_append, bitsOf_len] at hl1
        have HP := ac_rput (wdth m).toNat (s.size : Int) 0 bs bs1 n bs1.length (by omega) (by omega) hn hb1 rfl (by omega)
        rw [show (((wdth m).toNat : Nat) : Int) = wdth m by omega] at HP
        rw [hb1] at hb
        have hl2 := congrArg List.length hb
        rw [List.length_append, strBits_len] at hl2
        refine acalls_of_aw Try.func46 rfl rfl ?_
        repeat' first
          | refine st ?_
          | refine st_call (HW) ?_
          | refine stMW [0, 1] HR ?_
          | refine stMW [0, 1] HP ?_
          | refine stm ?_
          | refine run_want rfl rfl ?_
          | refine run_unwant rfl rfl ?_
          | refine run_undef rfl rfl ?_
          | refine run_guard1t rfl rfl (by omega) ?_
          | refine run_guard1f rfl rfl (by omega) ?_
          | refine run_guard0t rfl rfl (by omega) ?_
          | refine run_guard0f rfl rfl (by omega) ?_
          | refine run_guard1 rfl rfl (fun h1 => ?_) (fun h1 => ?_)
          | refine run_guard0 rfl rfl (fun h1 => ?_) (fun h1 => ?_)
          | refine run_guard rfl rfl (fun h1 => ?_) (fun h1 => ?_)
          | refine run_nil ?_
          | refine aw_seq ?_
          | refine aw_region (by kernel_rfl) (Nat.le_of_ble_eq_true rfl) ?_
          | refine aw_block ?_
          | refine aw_cond_t rfl ?_
          | refine aw_cond_f rfl ?_
          | refine aw_cond_tp rfl (by omega) ?_
          | refine aw_cond_fp rfl (by omega) ?_
          | refine aw_cond1 rfl (fun h1 => ?_) (fun h1 => ?_)
          | refine aw_cond rfl (fun h1 => ?_) (fun h1 => ?_)
          | refine aw_skip ?_
          | refine aw_exit ?_
          | refine aw_ret ?_
          | refine pp_ret ?_
          | refine pp_normal ?_
        refine aw_loopg
          (S := fun y : Ug => [(0, .pointer (some ⟨0, 0, none⟩)), (2, .string s), (6, .int .i64 y.i)])
          (B := fun y : Ug => [some ⟨[.slice (some ⟨2, 0, none⟩) y.n y.n, .int .i64 0], true, 1⟩, none, some ⟨List.map (Value.int .u8) y.bs, true, 1⟩])
          (R := fun y : Ug => y.i ≤ s.size ∧ y.bs = bs1 ++ strBits s y.i ∧ y.n = y.bs.length)
          (μ := fun y : Ug => s.size - y.i) ⟨0, bs1, bs1.length⟩ (fitsD [0, 1, 2]) ⟨Nat.zero_le _, by simp [strBits], rfl⟩ ?_
        clear HP HR hn
        rintro ⟨i, bs2, n2⟩ ⟨g1, g2, g4⟩
        dsimp only at *
        have hl3 := congrArg List.length g2
        rw [List.length_append, strBits_len] at hl3
        by_cases hi : i < s.size
        · obtain ⟨c, hc⟩ : ∃ c, byteAt s i = c := ⟨_, rfl⟩
          have hcl := c.toNat_lt
          obtain ⟨bs3, hb3⟩ : ∃ bs3, bs2 ++ bitsOf 8 (c.toNat : Int) = bs3 := ⟨_, rfl⟩
          have hl4 := congrArg List.length hb3
          rw [List.length_append, bitsOf_len] at hl4
          have HQ := ac_rput 8 (c.toNat : Int) 0 bs2 bs3 n2 bs3.length (by omega) (by omega) g4 hb3 rfl (by omega)
          rw [← hc] at HQ
          repeat' first
            | refine st (h := ok_conv_u8 rfl (by decide)) ?_
            | refine st ?_
            | refine stMW [0, 2] HQ ?_
            | refine stm ?_
            | refine run_want rfl rfl ?_
            | refine run_unwant rfl rfl ?_
            | refine run_undef rfl rfl ?_
            | refine run_guard1t rfl rfl (by omega) ?_
            | refine run_guard1f rfl rfl (by omega) ?_
            | refine run_guard0t rfl rfl (by omega) ?_
            | refine run_guard0f rfl rfl (by omega) ?_
            | refine run_guard1 rfl rfl (fun h1 => ?_) (fun h1 => ?_)
            | refine run_guard0 rfl rfl (fun h1 => ?_) (fun h1 => ?_)
            | refine run_guard rfl rfl (fun h1 => ?_) (fun h1 => ?_)
            | refine run_nil ?_
            | refine aw_seq ?_
            | refine aw_region (by kernel_rfl) (Nat.le_of_ble_eq_true rfl) ?_
            | refine aw_block ?_
            | refine aw_cond_t rfl ?_
            | refine aw_cond_f rfl ?_
            | refine aw_cond_tp rfl (by omega) ?_
            | refine aw_cond_fp rfl (by omega) ?_
            | refine aw_cond1 rfl (fun h1 => ?_) (fun h1 => ?_)
            | refine aw_cond rfl (fun h1 => ?_) (fun h1 => ?_)
            | refine aw_skip ?_
            | refine aw_exit ?_
            | refine aw_ret ?_
            | refine pp_ret ?_
            | refine pp_normal ?_
          refine Exists.intro ⟨i + 1, bs3, bs3.length⟩ ⟨fitsD [0, 1, 3], ⟨hi, by dsimp only; rw [strBits, ← List.append_assoc, ← g2, hc, hb3], rfl⟩, by dsimp only; omega⟩
        · obtain rfl : i = s.size := by omega
          repeat' first
            | refine st ?_
            | refine stm ?_
            | refine run_want rfl rfl ?_
            | refine run_unwant rfl rfl ?_
            | refine run_undef rfl rfl ?_
            | refine run_guard1t rfl rfl (by omega) ?_
            | refine run_guard1f rfl rfl (by omega) ?_
            | refine run_guard0t rfl rfl (by omega) ?_
            | refine run_guard0f rfl rfl (by omega) ?_
            | refine run_guard1 rfl rfl (fun h1 => ?_) (fun h1 => ?_)
            | refine run_guard0 rfl rfl (fun h1 => ?_) (fun h1 => ?_)
            | refine run_guard rfl rfl (fun h1 => ?_) (fun h1 => ?_)
            | refine run_nil ?_
            | refine aw_seq ?_
            | refine aw_region (by kernel_rfl) (Nat.le_of_ble_eq_true rfl) ?_
            | refine aw_block ?_
            | refine aw_cond_t rfl ?_
            | refine aw_cond_f rfl ?_
            | refine aw_cond_tp rfl (by omega) ?_
            | refine aw_cond_fp rfl (by omega) ?_
            | refine aw_cond1 rfl (fun h1 => ?_) (fun h1 => ?_)
            | refine aw_cond rfl (fun h1 => ?_) (fun h1 => ?_)
            | refine aw_skip ?_
            | refine aw_exit ?_
            | refine aw_ret ?_
            | refine pp_ret ?_
            | refine pp_normal ?_
          have hbb : bs2 = bs' := by rw [g2]; exact hb
          subst hbb
          subst g4 hn'
          exact pm_normal _ (renumD [0, 1, 2]) rfl
    · rw [if_pos (by simpa using hr)] at hst
      obtain ⟨rfl, rfl⟩ := Prod.mk.inj hst
      subst hn hn'
      refine acalls_of_aw Try.func46 rfl rfl ?_
      repeat' first
        | refine st ?_
        | refine stm ?_
        | refine run_want rfl rfl ?_
        | refine run_unwant rfl rfl ?_
        | refine run_undef rfl rfl ?_
        | refine run_guard1t rfl rfl (by omega) ?_
        | refine run_guard1f rfl rfl (by omega) ?_
        | refine run_guard0t rfl rfl (by omega) ?_
        | refine run_guard0f rfl rfl (by omega) ?_
        | refine run_guard1 rfl rfl (fun h1 => ?_) (fun h1 => ?_)
        | refine run_guard0 rfl rfl (fun h1 => ?_) (fun h1 => ?_)
        | refine run_guard rfl rfl (fun h1 => ?_) (fun h1 => ?_)
        | refine run_nil ?_
        | refine aw_seq ?_
        | refine aw_region (by kernel_rfl) (Nat.le_of_ble_eq_true rfl) ?_
        | refine aw_block ?_
        | refine aw_cond_t rfl ?_
        | refine aw_cond_f rfl ?_
        | refine aw_cond_tp rfl (by omega) ?_
        | refine aw_cond_fp rfl (by omega) ?_
        | refine aw_cond1 rfl (fun h1 => ?_) (fun h1 => ?_)
        | refine aw_cond rfl (fun h1 => ?_) (fun h1 => ?_)
        | refine aw_skip ?_
        | refine aw_exit ?_
        | refine aw_ret ?_
        | refine pp_ret ?_
        | refine pp_normal ?_
      all_goals first | exact pm_ret _ (renumD [0, 1, 1]) rfl | (exfalso; omega)
  · rw [if_pos he] at hst
    obtain ⟨rfl, rfl⟩ := Prod.mk.inj hst
    subst hn hn'
    refine acalls_of_aw Try.func46 rfl rfl ?_
    repeat' first
      | refine st ?_
      | refine stm ?_
      | refine run_want rfl rfl ?_
      | refine run_unwant rfl rfl ?_
      | refine run_undef rfl rfl ?_
      | refine run_guard1t rfl rfl (by omega) ?_
      | refine run_guard1f rfl rfl (by omega) ?_
      | refine run_guard0t rfl rfl (by omega) ?_
      | refine run_guard0f rfl rfl (by omega) ?_
      | refine run_guard1 rfl rfl (fun h1 => ?_) (fun h1 => ?_)
      | refine run_guard0 rfl rfl (fun h1 => ?_) (fun h1 => ?_)
      | refine run_guard rfl rfl (fun h1 => ?_) (fun h1 => ?_)
      | refine run_nil ?_
      | refine aw_seq ?_
      | refine aw_region (by kernel_rfl) (Nat.le_of_ble_eq_true rfl) ?_
      | refine aw_block ?_
      | refine aw_cond_t rfl ?_
      | refine aw_cond_f rfl ?_
      | refine aw_cond_tp rfl (by omega) ?_
      | refine aw_cond_fp rfl (by omega) ?_
      | refine aw_cond1 rfl (fun h1 => ?_) (fun h1 => ?_)
      | refine aw_cond rfl (fun h1 => ?_) (fun h1 => ?_)
      | refine aw_skip ?_
      | refine aw_exit ?_
      | refine aw_ret ?_
      | refine pp_ret ?_
      | refine pp_normal ?_
    all_goals first | exact pm_ret _ (renumD [0, 1, 1]) rfl | (exfalso; omega)
end Go.Proofs.Ytmmaolnjjjdecaa
