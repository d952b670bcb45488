/- Bits: signed fields and flags are read. -/
import Derived.Test.YtjamfmnlhiolkaaD4
set_option linter.unusedVariables false
set_option linter.unusedSimpArgs false
namespace Go.Proofs.Ytjamfmnlhiolkaa
open Go Av
set_option maxRecDepth 20000
theorem fieldR_cases {d : ByteArray} {a a' : Nat} {e e' w v : Int} {r : Bool} (h : fieldR d a e r w = (v, a', e')) :
    (e' ≠ 0 ∧ v = 0 ∧ a' = a ∧ (e ≠ 0 → e' = e)) ∨ (e' = 0 ∧ e = 0 ∧ r = true ∧ a' = a + w.toNat ∧ v = rdN d a w.toNat ∧ w ≤ 8 * d.size - a) := by
  unfold fieldR at h
  split at h
  · simp only [Prod.mk.injEq] at h; obtain ⟨rfl, rfl, rfl⟩ := h; rename_i h1; exact .inl ⟨h1, rfl, rfl, fun _ => rfl⟩
  · rename_i h0
    split at h
    · simp only [Prod.mk.injEq] at h; obtain ⟨rfl, rfl, rfl⟩ := h; exact .inl ⟨by decide, rfl, rfl, fun h => absurd h h0⟩
    · split at h
      · simp only [Prod.mk.injEq] at h; obtain ⟨rfl, rfl, rfl⟩ := h; exact .inl ⟨by decide, rfl, rfl, fun h => absurd h h0⟩
      · simp only [Prod.mk.injEq] at h; obtain ⟨rfl, rfl, rfl⟩ := h
        rename_i h2 h3
        exact .inr ⟨rfl, by omega, by simpa using h2, rfl, rfl, by omega⟩
def sgnR (d : ByteArray) (a : Nat) (e w : Int) : Int × Nat × Int :=
  ((if 2 ^ (w - 1).toNat ≤ (fieldR d a e (decide (2 ≤ w ∧ w ≤ 63)) w).1 then (fieldR d a e (decide (2 ≤ w ∧ w ≤ 63)) w).1 - 2 ^ w.toNat else (fieldR d a e (decide (2 ≤ w ∧ w ≤ 63)) w).1), (fieldR d a e (decide (2 ≤ w ∧ w ≤ 63)) w).2)
theorem bitTop (v : Int) (w : Nat) (h0 : 0 ≤ v) (h1 : v < 2 ^ (w + 1)) : v / 2 ^ w % 2 = if 2 ^ w ≤ v then 1 else 0 := by
  have hp : (0 : Int) < 2 ^ w := Int.pow_pos (by decide)
  rw [Int.pow_succ] at h1
  split
  · have h2 : v / 2 ^ w = 1 := by
      have e1 := (Int.le_ediv_iff_mul_le (a := 1) (b := v) hp).2 (by omega)
      have e2 := (Int.ediv_lt_iff_lt_mul (a := v) (b := 2) hp).2 (by omega)
      omega
    rw [h2]; rfl
  · rw [Int.ediv_eq_zero_of_lt h0 (by omega)]; rfl
def flgR (d : ByteArray) (a : Nat) (e : Int) : Bool × Nat × Int := (decide ((fieldR d a e true 1).1 = 1), (fieldR d a e true 1).2)
theorem ac_flgR (e e' : Int) (v : Bool) (a a' : Nat) (d : ByteArray) (hst : flgR d a e = (v, a', e')) (ha : a ≤ 8 * d.size) (hd : d.size ≤ 1000000) :
    ACalls Try.prog 46 [.pointer (some ⟨0, 0, none⟩)] [some ⟨[.string d, .int .i64 (a : Int), .int .i64 e], true, 1⟩] (.bool v) [some ⟨[.string d, .int .i64 (a' : Int), .int .i64 e'], true, 1⟩] := by
  unfold flgR at hst
  obtain ⟨v1, a1, e1, hf⟩ : ∃ v a1 e1, fieldR d a e true 1 = (v, a1, e1) := ⟨_, _, _, rfl⟩
  rw [hf] at hst
  simp only [Prod.mk.injEq] at hst
  obtain ⟨rfl, rfl, rfl⟩ := hst
  have HX := ac_fieldR true 1 e e1 v1 a a1 d hf ha hd (by simp)
  refine acalls_of_aw Try.func46 rfl rfl ?_
  repeat' first
    | refine st ?_
    | refine stMW [0] HX ?_
    | refine stm ?_
    | refine run_want rfl rfl ?_
    | refine run_unwant rfl rfl ?_
    | refine run_undef rfl rfl ?_
    | refine run_guard1t rfl rfl (by omega) ?_
    | refine run_guard1f rfl rfl (by omega) ?_
    | refine run_guard0t rfl rfl (by omega) ?_
    | refine run_guard0f rfl rfl (by omega) ?_
    | refine run_guard1 rfl rfl (fun h1 => ?_) (fun h1 => ?_)
    | refine run_guard0 rfl rfl (fun h1 => ?_) (fun h1 => ?_)
    | refine run_guard rfl rfl (fun h1 => ?_) (fun h1 => ?_)
    | refine run_nil ?_
    | refine aw_seq ?_
    | refine aw_region (by kernel_rfl) (Nat.le_of_ble_eq_true rfl) ?_
    | refine aw_block ?_
    | refine aw_cond_t rfl ?_
    | refine aw_cond_f rfl ?_
    | refine aw_cond_tp rfl (by omega) ?_
    | refine aw_cond_fp rfl (by omega) ?_
    | refine aw_cond1 rfl (fun h1 => ?_) (fun h1 => ?_)
    | refine aw_cond rfl (fun h1 => ?_) (fun h1 => ?_)
    | refine aw_skip ?_
    | refine aw_exit ?_
    | refine aw_ret ?_
    | refine pp_ret ?_
    | refine pp_normal ?_
  all_goals first | exact pm_ret _ (renumD [0]) rfl | (exfalso; omega)
end Go.Proofs.Ytjamfmnlhiolkaa
