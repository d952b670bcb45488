/- Bits: fields are written; what was written. -/
import Derived.Test.YtjamfmnlhiolkaaC5
set_option linter.unusedVariables false
set_option linter.unusedSimpArgs false
namespace Go.Proofs.Ytjamfmnlhiolkaa
open Go Av
set_option maxRecDepth 20000
def b8 (x : Int) : UInt8 := UInt8.ofNat (IntKind.u8.wrap x).toNat
theorem wrap8' (c : Int) : 0 ≤ IntKind.u8.wrap c ∧ IntKind.u8.wrap c ≤ 255 := by
  simp only [IntKind.wrap, IntKind.signed, IntKind.bits]
  constructor
  · simp; omega
  · simp; omega
theorem u8v_b8 (x : Int) : u8v (b8 x) = .int .u8 (IntKind.u8.wrap x) := by
  have h := wrap8' x
  simp only [u8v, b8]
  congr 1
  have : (UInt8.ofNat (IntKind.u8.wrap x).toNat).toNat = (IntKind.u8.wrap x).toNat := by
    rw [UInt8.toNat_ofNat']
    omega
  rw [this]
  omega
theorem pow_bd (w : Int) (h : 2 ≤ w ∧ w ≤ 63) : (1 : Int) ≤ 2 ^ (w - 1).toNat ∧ (2 : Int) ^ (w - 1).toNat ≤ 4611686018427387904 := by
  have h1 : (2 : Nat) ^ (w - 1).toNat ≤ 2 ^ 62 := Nat.pow_le_pow_right (by omega) (by omega)
  have h2 : 0 < (2 : Nat) ^ (w - 1).toNat := Nat.pos_of_ne_zero (by simp)
  have h3 : ((2 ^ (w - 1).toNat : Nat) : Int) = (2 : Int) ^ (w - 1).toNat := by push_cast; rfl
  omega
def flgW (bs : List Int) (e : Int) (b : Bool) : List Int × Int := fieldW bs e true true 1 (if b then 1 else 0)
theorem ac_flag (v : Bool) (e e' : Int) (bs bs' Z Z' : List Int) (n n' : Nat) (k k' : Int) (hZ : pack bs = Z) (hn : n = Z.length) (hk : k = bs.length) (hst : flgW bs e v = (bs', e')) (hZ' : pack bs' = Z') (hn' : n' = Z'.length) (hk' : k' = bs'.length) (hl : bs.length ≤ 524288) :
    ACalls Try.prog 33 [.pointer (some ⟨0, 0, none⟩), .bool v] [some ⟨[.slice (some ⟨1, 0, none⟩) n n, .int .i64 k, .int .i64 e], true, 1⟩, some ⟨List.map (Value.int .u8) Z, true, 1⟩] (.tuple #[]) [some ⟨[.slice (some ⟨2, 0, none⟩) n' n', .int .i64 k', .int .i64 e'], true, 1⟩, none, some ⟨List.map (Value.int .u8) Z', true, 1⟩] := by
  unfold flgW at hst
  have HF := ac_field true true 1 (if v then 1 else 0) e e' bs bs' Z Z' n n' k k' hZ hn hk hst hZ' hn' hk' hl (by simp) (by cases v <;> decide)
  cases v
  · refine acalls_of_aw Try.func33 rfl rfl ?_
    repeat' first
      | refine st ?_
      | refine stMW [0, 1] HF ?_
      | refine stm ?_
      | refine run_want rfl rfl ?_
      | refine run_unwant rfl rfl ?_
      | refine run_undef rfl rfl ?_
      | refine run_guard1t rfl rfl (by omega) ?_
      | refine run_guard1f rfl rfl (by omega) ?_
      | refine run_guard0t rfl rfl (by omega) ?_
      | refine run_guard0f rfl rfl (by omega) ?_
      | refine run_guard1 rfl rfl (fun h1 => ?_) (fun h1 => ?_)
      | refine run_guard0 rfl rfl (fun h1 => ?_) (fun h1 => ?_)
      | refine run_guard rfl rfl (fun h1 => ?_) (fun h1 => ?_)
      | refine run_nil ?_
      | refine aw_seq ?_
      | refine aw_region (by kernel_rfl) (Nat.le_of_ble_eq_true rfl) ?_
      | refine aw_block ?_
      | refine aw_cond_t rfl ?_
      | refine aw_cond_f rfl ?_
      | refine aw_cond_tp rfl (by omega) ?_
      | refine aw_cond_fp rfl (by omega) ?_
      | refine aw_cond1 rfl (fun h1 => ?_) (fun h1 => ?_)
      | refine aw_cond rfl (fun h1 => ?_) (fun h1 => ?_)
      | refine aw_skip ?_
      | refine aw_exit ?_
      | refine aw_ret ?_
      | refine pp_ret ?_
      | refine pp_normal ?_
    exact pm_normal _ (renumD [0, 1, 2]) rfl
  · refine acalls_of_aw Try.func33 rfl rfl ?_
    repeat' first
      | refine st ?_
      | refine stMW [0, 1] HF ?_
      | refine stm ?_
      | refine run_want rfl rfl ?_
      | refine run_unwant rfl rfl ?_
      | refine run_undef rfl rfl ?_
      | refine run_guard1t rfl rfl (by omega) ?_
      | refine run_guard1f rfl rfl (by omega) ?_
      | refine run_guard0t rfl rfl (by omega) ?_
      | refine run_guard0f rfl rfl (by omega) ?_
      | refine run_guard1 rfl rfl (fun h1 => ?_) (fun h1 => ?_)
      | refine run_guard0 rfl rfl (fun h1 => ?_) (fun h1 => ?_)
      | refine run_guard rfl rfl (fun h1 => ?_) (fun h1 => ?_)
      | refine run_nil ?_
      | refine aw_seq ?_
      | refine aw_region (by kernel_rfl) (Nat.le_of_ble_eq_true rfl) ?_
      | refine aw_block ?_
      | refine aw_cond_t rfl ?_
      | refine aw_cond_f rfl ?_
      | refine aw_cond_tp rfl (by omega) ?_
      | refine aw_cond_fp rfl (by omega) ?_
      | refine aw_cond1 rfl (fun h1 => ?_) (fun h1 => ?_)
      | refine aw_cond rfl (fun h1 => ?_) (fun h1 => ?_)
      | refine aw_skip ?_
      | refine aw_exit ?_
      | refine aw_ret ?_
      | refine pp_ret ?_
      | refine pp_normal ?_
    exact pm_normal _ (renumD [0, 1, 2]) rfl
theorem ac_newW : ACalls Try.prog 31 [] [] (.pointer (some ⟨0, 0, none⟩)) [some ⟨[.slice (some ⟨1, 0, none⟩) 0 0, .int .i64 0, .int .i64 0], true, 1⟩, some ⟨List.map (Value.int .u8) [], true, 1⟩] := by
  refine acalls_of_aw Try.func31 rfl rfl ?_
  refine aw_ghost 1 rfl ?_
  repeat' first
    | refine st ?_
    | refine stm ?_
    | refine run_want rfl rfl ?_
    | refine run_unwant rfl rfl ?_
    | refine run_undef rfl rfl ?_
    | refine run_guard1t rfl rfl (by omega) ?_
    | refine run_guard1f rfl rfl (by omega) ?_
    | refine run_guard0t rfl rfl (by omega) ?_
    | refine run_guard0f rfl rfl (by omega) ?_
    | refine run_guard1 rfl rfl (fun h1 => ?_) (fun h1 => ?_)
    | refine run_guard0 rfl rfl (fun h1 => ?_) (fun h1 => ?_)
    | refine run_guard rfl rfl (fun h1 => ?_) (fun h1 => ?_)
    | refine run_nil ?_
    | refine aw_seq ?_
    | refine aw_region (by kernel_rfl) (Nat.le_of_ble_eq_true rfl) ?_
    | refine aw_block ?_
    | refine aw_cond_t rfl ?_
    | refine aw_cond_f rfl ?_
    | refine aw_cond_tp rfl (by omega) ?_
    | refine aw_cond_fp rfl (by omega) ?_
    | refine aw_cond1 rfl (fun h1 => ?_) (fun h1 => ?_)
    | refine aw_cond rfl (fun h1 => ?_) (fun h1 => ?_)
    | refine aw_skip ?_
    | refine aw_exit ?_
    | refine aw_ret ?_
    | refine pp_ret ?_
    | refine pp_normal ?_
  exact pm_ret _ (renumD [1, 0]) rfl
theorem pkN_rng (bs : List Int) : ∀ k, ∀ z ∈ pkN bs k, 0 ≤ z ∧ z ≤ 255
  | 0, z, h => by simp [pkN] at h
  | k + 1, z, h => by
    have ih := pkN_rng bs k
    rw [pkN, pkS] at h
    rcases List.mem_or_eq_of_mem_set h with h | h
    · split at h
      · rcases List.mem_append.1 h with h | h
        · exact ih z h
        · simp at h; omega
      · exact ih z h
    · rw [h]
      exact wrap8' _
theorem bytes_u8 (Z : List Int) (h : ∀ z ∈ Z, 0 ≤ z ∧ z ≤ 255) : Z.map (Value.int .u8) = (Z.map b8).map u8v := by
  rw [List.map_map]
  apply List.map_congr_left
  intro z hz
  have := h z hz
  show Value.int .u8 z = u8v (b8 z)
  rw [u8v_b8, wrap_id (by simp [IntKind.min, IntKind.signed]; omega) (by simp [IntKind.max, IntKind.signed, IntKind.bits]; omega)]
theorem ac_bytesE (n : Nat) (k e : Int) (Z : List Int) (he : e ≠ 0) : ACalls Try.prog 34 [.pointer (some ⟨0, 0, none⟩)] [some ⟨[.slice (some ⟨1, 0, none⟩) n n, .int .i64 k, .int .i64 e], false, 1⟩, some ⟨List.map (Value.int .u8) Z, false, 1⟩] (.tuple #[.string ⟨#[]⟩, .int .i64 e]) [none, none] := by
  refine acalls_law Try.func34 rfl rfl rfl ?_
  repeat' first
    | refine st ?_
    | refine stm ?_
    | refine run_want rfl rfl ?_
    | refine run_unwant rfl rfl ?_
    | refine run_undef rfl rfl ?_
    | refine run_guard1t rfl rfl (by omega) ?_
    | refine run_guard1f rfl rfl (by omega) ?_
    | refine run_guard0t rfl rfl (by omega) ?_
    | refine run_guard0f rfl rfl (by omega) ?_
    | refine run_guard1 rfl rfl (fun h1 => ?_) (fun h1 => ?_)
    | refine run_guard0 rfl rfl (fun h1 => ?_) (fun h1 => ?_)
    | refine run_guard rfl rfl (fun h1 => ?_) (fun h1 => ?_)
    | refine run_nil ?_
    | refine sd ?_
    | refine sdl ?_
    | refine sdm ?_
    | refine sdb ?_
    | refine rund_want rfl rfl ?_
    | refine rund_unwant rfl rfl ?_
    | refine rund_undef rfl rfl ?_
    | refine rund_guard1 rfl rfl (fun h1 => ?_) (fun h1 => ?_)
    | refine rund_guard0 rfl rfl (fun h1 => ?_) (fun h1 => ?_)
    | refine rund_guard rfl rfl (fun h1 => ?_) (fun h1 => ?_)
    | refine rund_nil ?_
    | refine aw_seq ?_
    | refine aw_region (by kernel_rfl) (Nat.le_of_ble_eq_true rfl) ?_
    | refine aw_region_d (id := 2) [0, 1, 3, 7, 0, 31] 6 (by kernel_rfl) (by kernel_rfl) (by kernel_rfl) (Nat.le_of_ble_eq_true rfl) ?_
    | refine aw_block ?_
    | refine aw_cond_t rfl ?_
    | refine aw_cond_f rfl ?_
    | refine aw_cond_tp rfl (by omega) ?_
    | refine aw_cond_fp rfl (by omega) ?_
    | refine aw_cond1 rfl (fun h1 => ?_) (fun h1 => ?_)
    | refine aw_cond rfl (fun h1 => ?_) (fun h1 => ?_)
    | refine aw_skip ?_
    | refine aw_exit ?_
    | refine aw_ret ?_
    | refine pp_ret ?_
    | refine pp_normal ?_
  all_goals first | rfl | (exfalso; omega)
theorem ac_bytes (n : Nat) (k : Int) (bs Z : List Int) (hZ : pack bs = Z) (hn : n = Z.length) : ACalls Try.prog 34 [.pointer (some ⟨0, 0, none⟩)] [some ⟨[.slice (some ⟨1, 0, none⟩) n n, .int .i64 k, .int .i64 0], false, 1⟩, some ⟨List.map (Value.int .u8) Z, false, 1⟩] (.tuple #[.string ⟨(Z.map b8).toArray⟩, .int .i64 0]) [none, none] := by
  have hb := bytes_u8 Z (hZ ▸ pkN_rng bs bs.length)
  refine acalls_law Try.func34 rfl rfl rfl ?_
  repeat' first
    | refine st (h := ok_bytes_str (l := Z.map b8) rfl rfl (by simp; omega) ((take_full (by simp; omega)).trans hb)) ?_
    | refine st ?_
    | refine stm ?_
    | refine run_want rfl rfl ?_
    | refine run_unwant rfl rfl ?_
    | refine run_undef rfl rfl ?_
    | refine run_guard1t rfl rfl (by omega) ?_
    | refine run_guard1f rfl rfl (by omega) ?_
    | refine run_guard0t rfl rfl (by omega) ?_
    | refine run_guard0f rfl rfl (by omega) ?_
    | refine run_guard1 rfl rfl (fun h1 => ?_) (fun h1 => ?_)
    | refine run_guard0 rfl rfl (fun h1 => ?_) (fun h1 => ?_)
    | refine run_guard rfl rfl (fun h1 => ?_) (fun h1 => ?_)
    | refine run_nil ?_
    | refine sd ?_
    | refine sdl ?_
    | refine sdm ?_
    | refine sdb ?_
    | refine rund_want rfl rfl ?_
    | refine rund_unwant rfl rfl ?_
    | refine rund_undef rfl rfl ?_
    | refine rund_guard1 rfl rfl (fun h1 => ?_) (fun h1 => ?_)
    | refine rund_guard0 rfl rfl (fun h1 => ?_) (fun h1 => ?_)
    | refine rund_guard rfl rfl (fun h1 => ?_) (fun h1 => ?_)
    | refine rund_nil ?_
    | refine aw_seq ?_
    | refine aw_region (by kernel_rfl) (Nat.le_of_ble_eq_true rfl) ?_
    | refine aw_region_d (id := 2) [0, 1, 3, 7, 0, 31] 6 (by kernel_rfl) (by kernel_rfl) (by kernel_rfl) (Nat.le_of_ble_eq_true rfl) ?_
    | refine aw_block ?_
    | refine aw_cond_t rfl ?_
    | refine aw_cond_f rfl ?_
    | refine aw_cond_tp rfl (by omega) ?_
    | refine aw_cond_fp rfl (by omega) ?_
    | refine aw_cond1 rfl (fun h1 => ?_) (fun h1 => ?_)
    | refine aw_cond rfl (fun h1 => ?_) (fun h1 => ?_)
    | refine aw_skip ?_
    | refine aw_exit ?_
    | refine aw_ret ?_
    | refine pp_ret ?_
    | refine pp_normal ?_
  all_goals first | rfl | (exfalso; omega)
end Go.Proofs.Ytjamfmnlhiolkaa
