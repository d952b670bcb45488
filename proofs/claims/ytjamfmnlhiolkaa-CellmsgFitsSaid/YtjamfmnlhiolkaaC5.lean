/- Bits: fields are written. -/
import Derived.Test.YtjamfmnlhiolkaaC3
set_option linter.unusedVariables false
set_option linter.unusedSimpArgs false
namespace Go.Proofs.Ytjamfmnlhiolkaa
open Go Av
set_option maxRecDepth 20000
def unsW (bs : List Int) (e w x : Int) : List Int × Int := fieldW bs e (decide (1 ≤ w ∧ w ≤ 63)) (decide (0 ≤ x ∧ x < 2 ^ w.toNat)) w x
def sgnW (bs : List Int) (e w x : Int) : List Int × Int := fieldW bs e (decide (2 ≤ w ∧ w ≤ 63)) (decide (-(2 ^ (w - 1).toNat) ≤ x ∧ x < 2 ^ (w - 1).toNat)) w x
theorem fieldW_congr {bs : List Int} {e w x : Int} {r r' f f' : Bool} (hr : r = r') (hf : r = true → f = f') : fieldW bs e r f w x = fieldW bs e r' f' w x := by
  subst hr
  unfold fieldW
  cases r
  · simp
  · rw [hf rfl]
theorem bl_lt (x w : Int) (hx : 0 ≤ x) (hw : 0 ≤ w) : bl x.toNat ≤ w ↔ x < 2 ^ w.toNat := by
  have h := bl_le x.toNat w.toNat
  rw [show ((w.toNat : Nat) : Int) = w by omega] at h
  rw [h]
  have : ((2 ^ w.toNat : Nat) : Int) = (2 : Int) ^ w.toNat := by push_cast; rfl
  omega
set_option maxHeartbeats 1000000 in
theorem ac_unsigned (w x : Int) (e e' : Int) (bs bs' Z Z' : List Int) (n n' : Nat) (k k' : Int) (hZ : pack bs = Z) (hn : n = Z.length) (hk : k = bs.length) (hst : unsW bs e w x = (bs', e')) (hZ' : pack bs' = Z') (hn' : n' = Z'.length) (hk' : k' = bs'.length) (hl : bs.length ≤ 524288) (hw : -9223372036854775808 ≤ w ∧ w ≤ 9223372036854775807) (hx : -9223372036854775808 ≤ x ∧ x ≤ 9223372036854775807) :
    ACalls Try.prog 32 [.pointer (some ⟨0, 0, none⟩), .int .i64 w, .int .i64 x] [some ⟨[.slice (some ⟨1, 0, none⟩) n n, .int .i64 k, .int .i64 e], true, 1⟩, some ⟨List.map (Value.int .u8) Z, true, 1⟩] (.tuple #[]) [some ⟨[.slice (some ⟨2, 0, none⟩) n' n', .int .i64 k', .int .i64 e'], true, 1⟩, none, some ⟨List.map (Value.int .u8) Z', true, 1⟩] := by
  unfold unsW at hst
  by_cases h1 : 1 ≤ w
  · by_cases h2 : w ≤ 63
    · by_cases h3 : 0 ≤ x
      · have HL := ac_len x (by omega)
        have HF := ac_field (decide (w ≤ 63)) (decide (bl x.toNat ≤ w)) w x e e' bs bs' Z Z' n n' k k' hZ hn hk ((fieldW_congr (by simp [h1, h2]) (fun _ => by rw [decide_eq_decide, bl_lt x w h3 (by omega)]; simp [h3])).trans hst) hZ' hn' hk' hl (by simp; omega) hx
        refine acalls_of_aw Try.func32 rfl rfl ?_
        repeat' first
          | refine st ?_
          | refine st_call (HL) ?_
          | refine stMW [0, 1] HF ?_
          | refine stm ?_
          | refine run_want rfl rfl ?_
          | refine run_unwant rfl rfl ?_
          | refine run_undef rfl rfl ?_
          | refine run_guard1t rfl rfl (by omega) ?_
          | refine run_guard1f rfl rfl (by omega) ?_
          | refine run_guard0t rfl rfl (by omega) ?_
          | refine run_guard0f rfl rfl (by omega) ?_
          | refine run_guard1 rfl rfl (fun h1 => ?_) (fun h1 => ?_)
          | refine run_guard0 rfl rfl (fun h1 => ?_) (fun h1 => ?_)
          | refine run_guard rfl rfl (fun h1 => ?_) (fun h1 => ?_)
          | refine run_nil ?_
          | refine aw_seq ?_
          | refine aw_region (by kernel_rfl) (Nat.le_of_ble_eq_true rfl) ?_
          | refine aw_block ?_
          | refine aw_cond_t rfl ?_
          | refine aw_cond_f rfl ?_
          | refine aw_cond_tp rfl (by omega) ?_
          | refine aw_cond_fp rfl (by omega) ?_
          | refine aw_cond1 rfl (fun h1 => ?_) (fun h1 => ?_)
          | refine aw_cond rfl (fun h1 => ?_) (fun h1 => ?_)
          | refine aw_skip ?_
          | refine aw_exit ?_
          | refine aw_ret ?_
          | refine pp_ret ?_
          | refine pp_normal ?_
        all_goals first | exact pm_normal _ (renumD [0, 1, 2]) rfl | (exfalso; omega)
      · have HF := ac_field (decide (w ≤ 63)) false w x e e' bs bs' Z Z' n n' k k' hZ hn hk ((fieldW_congr (by simp [h1, h2]) (fun _ => by simp [h3])).trans hst) hZ' hn' hk' hl (by simp; omega) hx
        refine acalls_of_aw Try.func32 rfl rfl ?_
        repeat' first
          | refine st ?_
          | refine stMW [0, 1] HF ?_
          | refine stm ?_
          | refine run_want rfl rfl ?_
          | refine run_unwant rfl rfl ?_
          | refine run_undef rfl rfl ?_
          | refine run_guard1t rfl rfl (by omega) ?_
          | refine run_guard1f rfl rfl (by omega) ?_
          | refine run_guard0t rfl rfl (by omega) ?_
          | refine run_guard0f rfl rfl (by omega) ?_
          | refine run_guard1 rfl rfl (fun h1 => ?_) (fun h1 => ?_)
          | refine run_guard0 rfl rfl (fun h1 => ?_) (fun h1 => ?_)
          | refine run_guard rfl rfl (fun h1 => ?_) (fun h1 => ?_)
          | refine run_nil ?_
          | refine aw_seq ?_
          | refine aw_region (by kernel_rfl) (Nat.le_of_ble_eq_true rfl) ?_
          | refine aw_block ?_
          | refine aw_cond_t rfl ?_
          | refine aw_cond_f rfl ?_
          | refine aw_cond_tp rfl (by omega) ?_
          | refine aw_cond_fp rfl (by omega) ?_
          | refine aw_cond1 rfl (fun h1 => ?_) (fun h1 => ?_)
          | refine aw_cond rfl (fun h1 => ?_) (fun h1 => ?_)
          | refine aw_skip ?_
          | refine aw_exit ?_
          | refine aw_ret ?_
          | refine pp_ret ?_
          | refine pp_normal ?_
        all_goals first | exact pm_normal _ (renumD [0, 1, 2]) rfl | (exfalso; omega)
    · have HF := ac_field (decide (w ≤ 63)) false w x e e' bs bs' Z Z' n n' k k' hZ hn hk ((fieldW_congr (by simp [h2]) (fun h => by simp [h2] at h)).trans hst) hZ' hn' hk' hl (by simp; omega) hx
      refine acalls_of_aw Try.func32 rfl rfl ?_
      repeat' first
        | refine st ?_
        | refine stMW [0, 1] HF ?_
        | refine stm ?_
        | refine run_want rfl rfl ?_
        | refine run_unwant rfl rfl ?_
        | refine run_undef rfl rfl ?_
        | refine run_guard1t rfl rfl (by omega) ?_
        | refine run_guard1f rfl rfl (by omega) ?_
        | refine run_guard0t rfl rfl (by omega) ?_
        | refine run_guard0f rfl rfl (by omega) ?_
        | refine run_guard1 rfl rfl (fun h1 => ?_) (fun h1 => ?_)
        | refine run_guard0 rfl rfl (fun h1 => ?_) (fun h1 => ?_)
        | refine run_guard rfl rfl (fun h1 => ?_) (fun h1 => ?_)
        | refine run_nil ?_
        | refine aw_seq ?_
        | refine aw_region (by kernel_rfl) (Nat.le_of_ble_eq_true rfl) ?_
        | refine aw_block ?_
        | refine aw_cond_t rfl ?_
        | refine aw_cond_f rfl ?_
        | refine aw_cond_tp rfl (by omega) ?_
        | refine aw_cond_fp rfl (by omega) ?_
        | refine aw_cond1 rfl (fun h1 => ?_) (fun h1 => ?_)
        | refine aw_cond rfl (fun h1 => ?_) (fun h1 => ?_)
        | refine aw_skip ?_
        | refine aw_exit ?_
        | refine aw_ret ?_
        | refine pp_ret ?_
        | refine pp_normal ?_
      all_goals first | exact pm_normal _ (renumD [0, 1, 2]) rfl | (exfalso; omega)
  · have HF := ac_field false false w x e e' bs bs' Z Z' n n' k k' hZ hn hk ((fieldW_congr (by simp [h1]) (fun h => by simp at h)).trans hst) hZ' hn' hk' hl (by simp) hx
    refine acalls_of_aw Try.func32 rfl rfl ?_
    repeat' first
      | refine st ?_
      | refine stMW [0, 1] HF ?_
      | refine stm ?_
      | refine run_want rfl rfl ?_
      | refine run_unwant rfl rfl ?_
      | refine run_undef rfl rfl ?_
      | refine run_guard1t rfl rfl (by omega) ?_
      | refine run_guard1f rfl rfl (by omega) ?_
      | refine run_guard0t rfl rfl (by omega) ?_
      | refine run_guard0f rfl rfl (by omega) ?_
      | refine run_guard1 rfl rfl (fun h1 => ?_) (fun h1 => ?_)
      | refine run_guard0 rfl rfl (fun h1 => ?_) (fun h1 => ?_)
      | refine run_guard rfl rfl (fun h1 => ?_) (fun h1 => ?_)
      | refine run_nil ?_
      | refine aw_seq ?_
      | refine aw_region (by kernel_rfl) (Nat.le_of_ble_eq_true rfl) ?_
      | refine aw_block ?_
      | refine aw_cond_t rfl ?_
      | refine aw_cond_f rfl ?_
      | refine aw_cond_tp rfl (by omega) ?_
      | refine aw_cond_fp rfl (by omega) ?_
      | refine aw_cond1 rfl (fun h1 => ?_) (fun h1 => ?_)
      | refine aw_cond rfl (fun h1 => ?_) (fun h1 => ?_)
      | refine aw_skip ?_
      | refine aw_exit ?_
      | refine aw_ret ?_
      | refine pp_ret ?_
      | refine pp_normal ?_
    all_goals first | exact pm_normal _ (renumD [0, 1, 2]) rfl | (exfalso; omega)
end Go.Proofs.Ytjamfmnlhiolkaa
