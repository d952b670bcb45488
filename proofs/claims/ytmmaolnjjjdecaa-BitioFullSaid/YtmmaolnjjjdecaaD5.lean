/- Bits: signed fields and flags are read. -/
import Derived.Test.YtmmaolnjjjdecaaD4
set_option linter.unusedVariables false
set_option linter.unusedSimpArgs false
namespace Go.Proofs.Ytmmaolnjjjdecaa
open Go Av
set_option maxRecDepth 20000
theorem fieldR_cases {d : ByteArray} {a a' : Nat} {e e' w v : Int} {r : Bool} (h : fieldR d a e r w = (v, a', e')) :
    (e' ≠ 0 ∧ v = 0 ∧ a' = a ∧ (e ≠ 0 → e' = e)) ∨ (e' = 0 ∧ e = 0 ∧ r = true ∧ a' = a + w.toNat ∧ v = rdN d a w.toNat ∧ w ≤ 8 * d.size - a) := by
  unfold fieldR at h
  split at h
  · simp only [Prod.mk.injEq] at h; obtain ⟨rfl, rfl, rfl⟩ := h; rename_i h1; exact .inl ⟨h1, rfl, rfl, fun _ => rfl⟩
  · rename_i h0
    split at h
    · simp only [Prod.mk.injEq] at h; obtain ⟨rfl, rfl, rfl⟩ := h; exact .inl ⟨by decide, rfl, rfl, fun h => absurd h h0⟩
    · split at h
      · simp only [Prod.mk.injEq] at h; obtain ⟨rfl, rfl, rfl⟩ := h; exact .inl ⟨by decide, rfl, rfl, fun h => absurd h h0⟩
      · simp only [Prod.mk.injEq] at h; obtain ⟨rfl, rfl, rfl⟩ := h
        rename_i h2 h3
        exact .inr ⟨rfl, by omega, by simpa using h2, rfl, rfl, by omega⟩
def sgnR (d : ByteArray) (a : Nat) (e w : Int) : Int × Nat × Int :=
  ((if 2 ^ (w - 1).toNat ≤ (fieldR d a e (decide (2 ≤ w ∧ w ≤ 63)) w).1 then (fieldR d a e (decide (2 ≤ w ∧ w ≤ 63)) w).1 - 2 ^ w.toNat else (fieldR d a e (decide (2 ≤ w ∧ w ≤ 63)) w).1), (fieldR d a e (decide (2 ≤ w ∧ w ≤ 63)) w).2)
theorem bitTop (v : Int) (w : Nat) (h0 : 0 ≤ v) (h1 : v < 2 ^ (w + 1)) : v / 2 ^ w % 2 = if 2 ^ w ≤ v then 1 else 0 := by
  have hp : (0 : Int) < 2 ^ w := Int.pow_pos (by decide)
  rw [Int.pow_succ] at h1
  split
  · have h2 : v / 2 ^ w = 1 := by
      have e1 := (Int.le_ediv_iff_mul_le (a := 1) (b := v) hp).2 (by omega)
      have e2 := (Int.ediv_lt_iff_lt_mul (a := v) (b := 2) hp).2 (by omega)
      omega
    rw [h2]; rfl
  · rw [Int.ediv_eq_zero_of_lt h0 (by omega)]; rfl
set_option maxHeartbeats 1000000 in
theorem ac_sgnR (w e e' v vv : Int) (a a' : Nat) (d : ByteArray) (hst : sgnR d a e w = (vv, a', e')) (ha : a ≤ 8 * d.size) (hd : d.size ≤ 1000000) (hw : -9223372036854775808 ≤ w ∧ w ≤ 9223372036854775807) :
    ACalls Try.prog 27 [.pointer (some ⟨0, 0, none⟩), .int .i64 w] [some ⟨[.string d, .int .i64 (a : Int), .int .i64 e], true, 1⟩] (.int .i64 vv) [some ⟨[.string d, .int .i64 (a' : Int), .int .i64 e'], true, 1⟩] := by
  unfold sgnR at hst
  obtain ⟨v, a1, e1, hf⟩ : ∃ v a1 e1, fieldR d a e (decide (2 ≤ w ∧ w ≤ 63)) w = (v, a1, e1) := ⟨_, _, _, rfl⟩
  rw [hf] at hst
  simp only [Prod.mk.injEq] at hst
  obtain ⟨hvv, rfl, rfl⟩ := hst
  have hv := fieldR_bd hf (by simp; omega)
  have hf0 := hf
  have hcs := fieldR_cases hf
  by_cases h2 : 2 ≤ w
  · have hf2 : fieldR d a e (decide (w ≤ 63)) w = (v, a1, e1) := by rw [← hf]; congr 1; simp [h2]
    have HX := ac_fieldR (decide (w ≤ 63)) w e e1 v a a1 d hf2 ha hd (by simp; omega)
    rcases hcs with ⟨c1, c2, c3, c4⟩ | ⟨rfl, rfl, c3, c4, c5, c6⟩
    · have hp : (0 : Int) < 2 ^ (w - 1).toNat := Int.pow_pos (by decide)
      rw [if_neg (by omega)] at hvv
      subst hvv
      refine acalls_of_aw Try.func27 rfl rfl ?_
      repeat' first
        | refine st ?_
        | refine stMW [0] HX ?_
        | refine stm ?_
        | refine run_want rfl rfl ?_
        | refine run_unwant rfl rfl ?_
        | refine run_undef rfl rfl ?_
        | refine run_guard1t rfl rfl (by omega) ?_
        | refine run_guard1f rfl rfl (by omega) ?_
        | refine run_guard0t rfl rfl (by omega) ?_
        | refine run_guard0f rfl rfl (by omega) ?_
        | refine run_guard1 rfl rfl (fun h1 => ?_) (fun h1 => ?_)
        | refine run_guard0 rfl rfl (fun h1 => ?_) (fun h1 => ?_)
        | refine run_guard rfl rfl (fun h1 => ?_) (fun h1 => ?_)
        | refine run_nil ?_
        | refine aw_seq ?_
        | refine aw_region (by kernel_rfl) (Nat.le_of_ble_eq_true rfl) ?_
        | refine aw_block ?_
        | refine aw_cond_t rfl ?_
        | refine aw_cond_f rfl ?_
        | refine aw_cond_tp rfl (by omega) ?_
        | refine aw_cond_fp rfl (by omega) ?_
        | refine aw_cond1 rfl (fun h1 => ?_) (fun h1 => ?_)
        | refine aw_cond rfl (fun h1 => ?_) (fun h1 => ?_)
        | refine aw_skip ?_
        | refine aw_exit ?_
        | refine aw_ret ?_
        | refine pp_ret ?_
        | refine pp_normal ?_
      all_goals first | exact pm_ret _ (renumD [0]) rfl | (exfalso; omega)
    · have hw63 := of_decide_eq_true c3
      have hb := rdN_bd d a w.toNat
      rw [← c5] at hb
      have hsh : min (w - 1).toNat IntKind.i64.bits = (w - 1).toNat := by show min (w - 1).toNat 64 = _; omega
      have hT := bitTop v (w - 1).toNat hb.1 (by rw [show (w - 1).toNat + 1 = w.toNat by omega]; exact hb.2)
      have hB := bv_and1 .i64 (.inr rfl) (v / 2 ^ (min (w - 1).toNat IntKind.i64.bits))
      rw [hsh, hT, ← hsh] at hB
      rw [← hsh] at hvv
      by_cases hc : 2 ^ (min (w - 1).toNat IntKind.i64.bits) ≤ v
      · rw [if_pos hc] at hvv hB
        have hm : min w.toNat IntKind.i64.bits = w.toNat := by show min w.toNat 64 = _; omega
        have hpw : (2 : Int) ^ w.toNat = 2 ^ (w - 1).toNat * 2 := by rw [← Int.pow_succ]; congr 1; omega
        rw [hsh] at hc
        have hx : IntKind.i64.wrap (v - IntKind.i64.wrap (1 * 2 ^ (min w.toNat IntKind.i64.bits))) = vv := by
          rw [hm, ← hvv, Int.one_mul]
          by_cases h63 : w = 63
          · subst h63
            have e2 : (2 : Int) ^ (63 : Int).toNat = 9223372036854775808 := by decide
            rw [e2] at hb hpw ⊢
            rw [show IntKind.i64.wrap 9223372036854775808 = -9223372036854775808 from by decide]
            show (if (true && decide ((v - -9223372036854775808) % 18446744073709551616 ≥ 9223372036854775808)) = true then (v - -9223372036854775808) % 18446744073709551616 - 18446744073709551616 else (v - -9223372036854775808) % 18446744073709551616) = _
            have e : (v - -9223372036854775808) % 18446744073709551616 = v + 9223372036854775808 := by omega
            rw [e, if_pos (by simp; omega)]
            omega
          · have h1 : (2 : Nat) ^ w.toNat ≤ 2 ^ 62 := Nat.pow_le_pow_right (by omega) (by omega)
            have h3 : ((2 ^ w.toNat : Nat) : Int) = (2 : Int) ^ w.toNat := by push_cast; rfl
            rw [wrap64 (n := (2 : Int) ^ w.toNat) (by omega), wrap64 (by omega)]
        subst hx
        refine acalls_of_aw Try.func27 rfl rfl ?_
        repeat' first
          | refine st ?_
          | refine stMW [0] HX ?_
          | refine stm ?_
          | refine run_want rfl rfl ?_
          | refine run_unwant rfl rfl ?_
          | refine run_undef rfl rfl ?_
          | refine run_guard1t rfl rfl (by omega) ?_
          | refine run_guard1f rfl rfl (by omega) ?_
          | refine run_guard0t rfl rfl (by omega) ?_
          | refine run_guard0f rfl rfl (by omega) ?_
          | refine run_guard1 rfl rfl (fun h1 => ?_) (fun h1 => ?_)
          | refine run_guard0 rfl rfl (fun h1 => ?_) (fun h1 => ?_)
          | refine run_guard rfl rfl (fun h1 => ?_) (fun h1 => ?_)
          | refine run_nil ?_
          | refine aw_seq ?_
          | refine aw_region (by kernel_rfl) (Nat.le_of_ble_eq_true rfl) ?_
          | refine aw_block ?_
          | refine aw_cond_t rfl ?_
          | refine aw_cond_f rfl ?_
          | refine aw_cond_tp rfl (by omega) ?_
          | refine aw_cond_fp rfl (by omega) ?_
          | refine aw_cond1 rfl (fun h1 => ?_) (fun h1 => ?_)
          | refine aw_cond rfl (fun h1 => ?_) (fun h1 => ?_)
          | refine aw_skip ?_
          | refine aw_exit ?_
          | refine aw_ret ?_
          | refine pp_ret ?_
          | refine pp_normal ?_
        all_goals first | exact pm_ret _ (renumD [0]) rfl | (exfalso; omega)
      · rw [if_neg hc] at hvv hB
        subst hvv
        refine acalls_of_aw Try.func27 rfl rfl ?_
        repeat' first
          | refine st ?_
          | refine stMW [0] HX ?_
          | refine stm ?_
          | refine run_want rfl rfl ?_
          | refine run_unwant rfl rfl ?_
          | refine run_undef rfl rfl ?_
          | refine run_guard1t rfl rfl (by omega) ?_
          | refine run_guard1f rfl rfl (by omega) ?_
          | refine run_guard0t rfl rfl (by omega) ?_
          | refine run_guard0f rfl rfl (by omega) ?_
          | refine run_guard1 rfl rfl (fun h1 => ?_) (fun h1 => ?_)
          | refine run_guard0 rfl rfl (fun h1 => ?_) (fun h1 => ?_)
          | refine run_guard rfl rfl (fun h1 => ?_) (fun h1 => ?_)
          | refine run_nil ?_
          | refine aw_seq ?_
          | refine aw_region (by kernel_rfl) (Nat.le_of_ble_eq_true rfl) ?_
          | refine aw_block ?_
          | refine aw_cond_t rfl ?_
          | refine aw_cond_f rfl ?_
          | refine aw_cond_tp rfl (by omega) ?_
          | refine aw_cond_fp rfl (by omega) ?_
          | refine aw_cond1 rfl (fun h1 => ?_) (fun h1 => ?_)
          | refine aw_cond rfl (fun h1 => ?_) (fun h1 => ?_)
          | refine aw_skip ?_
          | refine aw_exit ?_
          | refine aw_ret ?_
          | refine pp_ret ?_
          | refine pp_normal ?_
        all_goals first | exact pm_ret _ (renumD [0]) rfl | (exfalso; omega)
  · have hf2 : fieldR d a e false w = (v, a1, e1) := by rw [← hf]; congr 1; simp [h2]
    have HX := ac_fieldR false w e e1 v a a1 d hf2 ha hd (by simp)
    rcases hcs with ⟨c1, c2, c3, c4⟩ | ⟨rfl, rfl, c3, c4, c5, c6⟩
    · have hp : (0 : Int) < 2 ^ (w - 1).toNat := Int.pow_pos (by decide)
      rw [if_neg (by omega)] at hvv
      subst hvv
      refine acalls_of_aw Try.func27 rfl rfl ?_
      repeat' first
        | refine st ?_
        | refine stMW [0] HX ?_
        | refine stm ?_
        | refine run_want rfl rfl ?_
        | refine run_unwant rfl rfl ?_
        | refine run_undef rfl rfl ?_
        | refine run_guard1t rfl rfl (by omega) ?_
        | refine run_guard1f rfl rfl (by omega) ?_
        | refine run_guard0t rfl rfl (by omega) ?_
        | refine run_guard0f rfl rfl (by omega) ?_
        | refine run_guard1 rfl rfl (fun h1 => ?_) (fun h1 => ?_)
        | refine run_guard0 rfl rfl (fun h1 => ?_) (fun h1 => ?_)
        | refine run_guard rfl rfl (fun h1 => ?_) (fun h1 => ?_)
        | refine run_nil ?_
        | refine aw_seq ?_
        | refine aw_region (by kernel_rfl) (Nat.le_of_ble_eq_true rfl) ?_
        | refine aw_block ?_
        | refine aw_cond_t rfl ?_
        | refine aw_cond_f rfl ?_
        | refine aw_cond_tp rfl (by omega) ?_
        | refine aw_cond_fp rfl (by omega) ?_
        | refine aw_cond1 rfl (fun h1 => ?_) (fun h1 => ?_)
        | refine aw_cond rfl (fun h1 => ?_) (fun h1 => ?_)
        | refine aw_skip ?_
        | refine aw_exit ?_
        | refine aw_ret ?_
        | refine pp_ret ?_
        | refine pp_normal ?_
      all_goals first | exact pm_ret _ (renumD [0]) rfl | (exfalso; omega)
    · simp at c3; omega
def flgR (d : ByteArray) (a : Nat) (e : Int) : Bool × Nat × Int := (decide ((fieldR d a e true 1).1 = 1), (fieldR d a e true 1).2)
theorem ac_flgR (e e' : Int) (v : Bool) (a a' : Nat) (d : ByteArray) (hst : flgR d a e = (v, a', e')) (ha : a ≤ 8 * d.size) (hd : d.size ≤ 1000000) :
    ACalls Try.prog 41 [.pointer (some ⟨0, 0, none⟩)] [some ⟨[.string d, .int .i64 (a : Int), .int .i64 e], true, 1⟩] (.bool v) [some ⟨[.string d, .int .i64 (a' : Int), .int .i64 e'], true, 1⟩] := by
  unfold flgR at hst
  obtain ⟨v1, a1, e1, hf⟩ : ∃ v a1 e1, fieldR d a e true 1 = (v, a1, e1) := ⟨_, _, _, rfl⟩
  rw [hf] at hst
  simp only [Prod.mk.injEq] at hst
  obtain ⟨rfl, rfl, rfl⟩ := hst
  have HX := ac_fieldR true 1 e e1 v1 a a1 d hf ha hd (by simp)
  refine acalls_of_aw Try.func41 rfl rfl ?_
  repeat' first
    | refine st ?_
    | refine stMW [0] HX ?_
    | refine stm ?_
    | refine run_want rfl rfl ?_
    | refine run_unwant rfl rfl ?_
    | refine run_undef rfl rfl ?_
    | refine run_guard1t rfl rfl (by omega) ?_
    | refine run_guard1f rfl rfl (by omega) ?_
    | refine run_guard0t rfl rfl (by omega) ?_
    | refine run_guard0f rfl rfl (by omega) ?_
    | refine run_guard1 rfl rfl (fun h1 => ?_) (fun h1 => ?_)
    | refine run_guard0 rfl rfl (fun h1 => ?_) (fun h1 => ?_)
    | refine run_guard rfl rfl (fun h1 => ?_) (fun h1 => ?_)
    | refine run_nil ?_
    | refine aw_seq ?_
    | refine aw_region (by kernel_rfl) (Nat.le_of_ble_eq_true rfl) ?_
    | refine aw_block ?_
    | refine aw_cond_t rfl ?_
    | refine aw_cond_f rfl ?_
    | refine aw_cond_tp rfl (by omega) ?_
    | refine aw_cond_fp rfl (by omega) ?_
    | refine aw_cond1 rfl (fun h1 => ?_) (fun h1 => ?_)
    | refine aw_cond rfl (fun h1 => ?_) (fun h1 => ?_)
    | refine aw_skip ?_
    | refine aw_exit ?_
    | refine aw_ret ?_
    | refine pp_ret ?_
    | refine pp_normal ?_
  all_goals first | exact pm_ret _ (renumD [0]) rfl | (exfalso; omega)
end Go.Proofs.Ytmmaolnjjjdecaa
