/- Bits: the reference reader is closed. -/
import Derived.Test.YtjamfmnlhiolkaaD8
import Derived.Test.YtjamfmnlhiolkaaD7
set_option linter.unusedVariables false
set_option linter.unusedSimpArgs false
namespace Go.Proofs.Ytjamfmnlhiolkaa
open Go Av
set_option maxRecDepth 20000
structure Zg where
  i : Nat
theorem rdN_zero (d : ByteArray) (a : Nat) : ∀ w, (∀ j, j < w → bitD d (a + j) = 0) → rdN d a w = 0
  | 0, _ => rfl
  | w + 1, h => by rw [rdN, rdN_zero d a w fun j hj => h j (by omega), h w (by omega)]; rfl
theorem rdN_one (d : ByteArray) (a j : Nat) (hj : bitD d (a + j) ≠ 0) : ∀ w, j < w → rdN d a w ≠ 0
  | 0, h => by omega
  | w + 1, h => by
    have h1 := rdN_bd d a w
    have h2 := bitD_bd d (a + w)
    rw [rdN]
    rcases Nat.lt_or_ge j w with hw | hw
    · have := rdN_one d a j hj w hw
      omega
    · obtain rfl : j = w := by omega
      omega
set_option maxHeartbeats 1000000 in
theorem ac_rcloseR (e c : Int) (a : Nat) (d d2 : ByteArray) (a2 : Int) (hst : closeR d a e = c) (hr : RR d a e d2 a2) (ha : a ≤ 8 * d.size) (hd : d.size ≤ 1000000) : ACalls Try.prog 53 [.pointer (some ⟨0, 0, none⟩)] [some ⟨[.string d2, .int .i64 a2, .int .i64 e], false, 1⟩] (.int .i64 c) [none] := by
  unfold closeR at hst
  by_cases he : e = 0
  · subst he
    rw [if_neg (by simp)] at hst
    obtain ⟨rfl, rfl⟩ := hr.1 rfl
    have HL := ac_rrleft a 0 d2 (by omega) hd
    by_cases h8 : 8 ≤ 8 * d2.size - a
    · rw [if_pos (.inl h8)] at hst
      subst hst
      refine acalls_law Try.func53 rfl rfl rfl ?_
      repeat' first
        | refine st ?_
        | refine stRW [0] HL ?_
        | refine stm ?_
        | refine run_want rfl rfl ?_
        | refine run_unwant rfl rfl ?_
        | refine run_undef rfl rfl ?_
        | refine run_guard1t rfl rfl (by omega) ?_
        | refine run_guard1f rfl rfl (by omega) ?_
        | refine run_guard0t rfl rfl (by omega) ?_
        | refine run_guard0f rfl rfl (by omega) ?_
        | refine run_guard1 rfl rfl (fun h1 => ?_) (fun h1 => ?_)
        | refine run_guard0 rfl rfl (fun h1 => ?_) (fun h1 => ?_)
        | refine run_guard rfl rfl (fun h1 => ?_) (fun h1 => ?_)
        | refine run_nil ?_
        | refine aw_seq ?_
        | refine aw_region (by kernel_rfl) (Nat.le_of_ble_eq_true rfl) ?_
        | refine aw_block ?_
        | refine aw_cond_t rfl ?_
        | refine aw_cond_f rfl ?_
        | refine aw_cond_tp rfl (by omega) ?_
        | refine aw_cond_fp rfl (by omega) ?_
        | refine aw_cond1 rfl (fun h1 => ?_) (fun h1 => ?_)
        | refine aw_cond rfl (fun h1 => ?_) (fun h1 => ?_)
        | refine aw_skip ?_
        | refine aw_exit ?_
        | refine aw_ret ?_
        | refine pp_ret ?_
        | refine pp_normal ?_
      all_goals first | rfl | (exfalso; omega)
    · refine acalls_law Try.func53 rfl rfl rfl ?_
      repeat' first
        | refine st ?_
        | refine stRW [0] HL ?_
        | refine stm ?_
        | refine run_want rfl rfl ?_
        | refine run_unwant rfl rfl ?_
        | refine run_undef rfl rfl ?_
        | refine run_guard1t rfl rfl (by omega) ?_
        | refine run_guard1f rfl rfl (by omega) ?_
        | refine run_guard0t rfl rfl (by omega) ?_
        | refine run_guard0f rfl rfl (by omega) ?_
        | refine run_guard1 rfl rfl (fun h1 => ?_) (fun h1 => ?_)
        | refine run_guard0 rfl rfl (fun h1 => ?_) (fun h1 => ?_)
        | refine run_guard rfl rfl (fun h1 => ?_) (fun h1 => ?_)
        | refine run_nil ?_
        | refine aw_seq ?_
        | refine aw_region (by kernel_rfl) (Nat.le_of_ble_eq_true rfl) ?_
        | refine aw_block ?_
        | refine aw_cond_t rfl ?_
        | refine aw_cond_f rfl ?_
        | refine aw_cond_tp rfl (by omega) ?_
        | refine aw_cond_fp rfl (by omega) ?_
        | refine aw_cond1 rfl (fun h1 => ?_) (fun h1 => ?_)
        | refine aw_cond rfl (fun h1 => ?_) (fun h1 => ?_)
        | refine aw_skip ?_
        | refine aw_exit ?_
        | refine aw_ret ?_
        | refine pp_ret ?_
        | refine pp_normal ?_
      refine aw_loopg
        (S := fun y : Zg => [(0, .pointer (some ⟨0, 0, none⟩)), (3, .int .i64 ((a + y.i : Nat) : Int))])
        (B := fun y : Zg => [some ⟨[.string d2, .int .i64 (a : Int), .int .i64 0], false, 1⟩])
        (R := fun y : Zg => a + y.i ≤ 8 * d2.size ∧ ∀ j, j < y.i → bitD d2 (a + j) = 0)
        (μ := fun y : Zg => 8 * d2.size - y.i) ⟨0⟩ (fitsD [0]) ⟨ha, fun j hj => absurd hj (Nat.not_lt_zero j)⟩ ?_
      rintro ⟨i⟩ ⟨g1, g2⟩
      dsimp only at *
      by_cases hi : a + i < 8 * d2.size
      · have e1 : min (7 - ((a + i : Nat) : Int) % 8).toNat IntKind.i64.bits = 7 - (a + i) % 8 := by show min (7 - ((a + i : Nat) : Int) % 8).toNat 64 = _; omega
        have e2 : (((a + i : Nat) : Int) / 8).toNat = (a + i) / 8 := by omega
        have e3 := bv_and1 .i64 (.inr rfl) (((byteAt d2 (((a + i : Nat) : Int) / 8).toNat).toNat : Int) / 2 ^ (min (7 - ((a + i : Nat) : Int) % 8).toNat IntKind.i64.bits))
        rw [e1, e2] at e3
        have hbd := bitD_bd d2 (a + i)
        rw [← bitD, ← e1, ← e2] at e3
        by_cases hb : bitD d2 (a + i) = 0
        · rw [hb] at e3
          repeat' first
            | refine st (h := ok_conv_u8 rfl (by decide)) ?_
            | refine st ?_
            | refine stm ?_
            | refine run_want rfl rfl ?_
            | refine run_unwant rfl rfl ?_
            | refine run_undef rfl rfl ?_
            | refine run_guard1t rfl rfl (by omega) ?_
            | refine run_guard1f rfl rfl (by omega) ?_
            | refine run_guard0t rfl rfl (by omega) ?_
            | refine run_guard0f rfl rfl (by omega) ?_
            | refine run_guard1 rfl rfl (fun h1 => ?_) (fun h1 => ?_)
            | refine run_guard0 rfl rfl (fun h1 => ?_) (fun h1 => ?_)
            | refine run_guard rfl rfl (fun h1 => ?_) (fun h1 => ?_)
            | refine run_nil ?_
            | refine aw_seq ?_
            | refine aw_region (by kernel_rfl) (Nat.le_of_ble_eq_true rfl) ?_
            | refine aw_block ?_
            | refine aw_cond_t rfl ?_
            | refine aw_cond_f rfl ?_
            | refine aw_cond_tp rfl (by omega) ?_
            | refine aw_cond_fp rfl (by omega) ?_
            | refine aw_cond1 rfl (fun h1 => ?_) (fun h1 => ?_)
            | refine aw_cond rfl (fun h1 => ?_) (fun h1 => ?_)
            | refine aw_skip ?_
            | refine aw_exit ?_
            | refine aw_ret ?_
            | refine pp_ret ?_
            | refine pp_normal ?_
          refine Exists.intro ⟨i + 1⟩ ⟨fitsD [0], ⟨by dsimp only; omega, fun j hj => ?_⟩, by dsimp only; omega⟩
          rcases Nat.lt_or_ge j i with h' | h'
          · exact g2 j h'
          · obtain rfl : j = i := by dsimp only at hj; omega
            exact hb
        · rw [show bitD d2 (a + i) = 1 by omega] at e3
          rw [if_pos (.inr (rdN_one d2 a i hb _ (by omega)))] at hst
          subst hst
          repeat' first
            | refine st (h := ok_conv_u8 rfl (by decide)) ?_
            | refine st ?_
            | refine stm ?_
            | refine run_want rfl rfl ?_
            | refine run_unwant rfl rfl ?_
            | refine run_undef rfl rfl ?_
            | refine run_guard1t rfl rfl (by omega) ?_
            | refine run_guard1f rfl rfl (by omega) ?_
            | refine run_guard0t rfl rfl (by omega) ?_
            | refine run_guard0f rfl rfl (by omega) ?_
            | refine run_guard1 rfl rfl (fun h1 => ?_) (fun h1 => ?_)
            | refine run_guard0 rfl rfl (fun h1 => ?_) (fun h1 => ?_)
            | refine run_guard rfl rfl (fun h1 => ?_) (fun h1 => ?_)
            | refine run_nil ?_
            | refine aw_seq ?_
            | refine aw_region (by kernel_rfl) (Nat.le_of_ble_eq_true rfl) ?_
            | refine aw_block ?_
            | refine aw_cond_t rfl ?_
            | refine aw_cond_f rfl ?_
            | refine aw_cond_tp rfl (by omega) ?_
            | refine aw_cond_fp rfl (by omega) ?_
            | refine aw_cond1 rfl (fun h1 => ?_) (fun h1 => ?_)
            | refine aw_cond rfl (fun h1 => ?_) (fun h1 => ?_)
            | refine aw_skip ?_
            | refine aw_exit ?_
            | refine aw_ret ?_
            | refine pp_ret ?_
            | refine pp_normal ?_
          all_goals first | rfl | (exfalso; omega)
      · rw [if_neg (by rintro (h | h); exact h8 h; exact h (rdN_zero d2 a _ fun j hj => g2 j (by omega)))] at hst
        subst hst
        repeat' first
          | refine st ?_
          | refine stm ?_
          | refine run_want rfl rfl ?_
          | refine run_unwant rfl rfl ?_
          | refine run_undef rfl rfl ?_
          | refine run_guard1t rfl rfl (by omega) ?_
          | refine run_guard1f rfl rfl (by omega) ?_
          | refine run_guard0t rfl rfl (by omega) ?_
          | refine run_guard0f rfl rfl (by omega) ?_
          | refine run_guard1 rfl rfl (fun h1 => ?_) (fun h1 => ?_)
          | refine run_guard0 rfl rfl (fun h1 => ?_) (fun h1 => ?_)
          | refine run_guard rfl rfl (fun h1 => ?_) (fun h1 => ?_)
          | refine run_nil ?_
          | refine aw_seq ?_
          | refine aw_region (by kernel_rfl) (Nat.le_of_ble_eq_true rfl) ?_
          | refine aw_block ?_
          | refine aw_cond_t rfl ?_
          | refine aw_cond_f rfl ?_
          | refine aw_cond_tp rfl (by omega) ?_
          | refine aw_cond_fp rfl (by omega) ?_
          | refine aw_cond1 rfl (fun h1 => ?_) (fun h1 => ?_)
          | refine aw_cond rfl (fun h1 => ?_) (fun h1 => ?_)
          | refine aw_skip ?_
          | refine aw_exit ?_
          | refine aw_ret ?_
          | refine pp_ret ?_
          | refine pp_normal ?_
        all_goals first | rfl | (exfalso; omega)
  · rw [if_pos he] at hst
    subst hst
    obtain ⟨rfl, rfl⟩ := hr.2 he
    refine acalls_law Try.func53 rfl rfl rfl ?_
    repeat' first
      | refine st ?_
      | refine stm ?_
      | refine run_want rfl rfl ?_
      | refine run_unwant rfl rfl ?_
      | refine run_undef rfl rfl ?_
      | refine run_guard1t rfl rfl (by omega) ?_
      | refine run_guard1f rfl rfl (by omega) ?_
      | refine run_guard0t rfl rfl (by omega) ?_
      | refine run_guard0f rfl rfl (by omega) ?_
      | refine run_guard1 rfl rfl (fun h1 => ?_) (fun h1 => ?_)
      | refine run_guard0 rfl rfl (fun h1 => ?_) (fun h1 => ?_)
      | refine run_guard rfl rfl (fun h1 => ?_) (fun h1 => ?_)
      | refine run_nil ?_
      | refine aw_seq ?_
      | refine aw_region (by kernel_rfl) (Nat.le_of_ble_eq_true rfl) ?_
      | refine aw_block ?_
      | refine aw_cond_t rfl ?_
      | refine aw_cond_f rfl ?_
      | refine aw_cond_tp rfl (by omega) ?_
      | refine aw_cond_fp rfl (by omega) ?_
      | refine aw_cond1 rfl (fun h1 => ?_) (fun h1 => ?_)
      | refine aw_cond rfl (fun h1 => ?_) (fun h1 => ?_)
      | refine aw_skip ?_
      | refine aw_exit ?_
      | refine aw_ret ?_
      | refine pp_ret ?_
      | refine pp_normal ?_
    all_goals first | rfl | (exfalso; omega)
end Go.Proofs.Ytjamfmnlhiolkaa
