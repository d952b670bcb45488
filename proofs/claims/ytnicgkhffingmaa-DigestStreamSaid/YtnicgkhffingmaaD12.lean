/- Digest: texts. -/
import Derived.Test.YtnicgkhffingmaaD8
import Derived.Test.YtnicgkhffingmaaVF
set_option linter.unusedVariables false
set_option linter.unusedSimpArgs false
namespace Go.Proofs.Ytnicgkhffingmaa
open Go Av
set_option maxRecDepth 20000
def dgs : ByteArray := ⟨#[48, 49, 50, 51, 52, 53, 54, 55, 56, 57, 97, 98, 99, 100, 101, 102]⟩
def hiI (x : Int) : Int := x / 2 ^ (min (Int.toNat 4) IntKind.u8.bits)
def loI (x : Int) : Int := bitv .and .u8 x 15
def hiB (b : UInt8) : UInt8 := byteAt dgs (hiI b.toNat).toNat
def loB (b : UInt8) : UInt8 := byteAt dgs (loI b.toNat).toNat
theorem hilo_bd : ∀ b : Fin 256, (0 ≤ hiI (b.val : Int) ∧ hiI (b.val : Int) < 16) ∧ 0 ≤ loI (b.val : Int) ∧ loI (b.val : Int) < 16 := by decide +kernel
theorem hilo (b : UInt8) : (0 ≤ hiI (b.toNat : Int) ∧ hiI (b.toNat : Int) < 16) ∧ 0 ≤ loI (b.toNat : Int) ∧ loI (b.toNat : Int) < 16 := hilo_bd ⟨b.toNat, b.toNat_lt⟩
def hexL (s : ByteArray) : Nat → List UInt8
  | 0 => []
  | i + 1 => hexL s i ++ [hiB (byteAt s i), loB (byteAt s i)]
theorem hexL_len (s i) : (hexL s i).length = 2 * i := by induction i with
  | zero => rfl
  | succ i ih => simp [hexL, ih]; omega
set_option maxHeartbeats 1000000 in
theorem ac_HexBad (s : ByteArray) (h : s.size ≠ 32) : ACalls Try.prog 9 [.string s] [] (.tuple #[.string ⟨#[]⟩, .int .i64 1]) [] := by
  refine acalls_pure Try.func9 rfl rfl rfl ?_
  repeat' first
    | refine st ?_
    | refine stm ?_
    | refine run_want rfl rfl ?_
    | refine run_unwant rfl rfl ?_
    | refine run_undef rfl rfl ?_
    | refine run_guard1t rfl rfl (by omega) ?_
    | refine run_guard1f rfl rfl (by omega) ?_
    | refine run_guard0t rfl rfl (by omega) ?_
    | refine run_guard0f rfl rfl (by omega) ?_
    | refine run_guard1 rfl rfl (fun h1 => ?_) (fun h1 => ?_)
    | refine run_guard0 rfl rfl (fun h1 => ?_) (fun h1 => ?_)
    | refine run_guard rfl rfl (fun h1 => ?_) (fun h1 => ?_)
    | refine run_nil ?_
    | refine sd ?_
    | refine sdl ?_
    | refine sdm (n := 1) ?_
    | refine sdm ?_
    | refine sdb ?_
    | refine rund_want rfl rfl ?_
    | refine rund_unwant rfl rfl ?_
    | refine rund_undef rfl rfl ?_
    | refine rund_guard1 rfl rfl (fun h1 => ?_) (fun h1 => ?_)
    | refine rund_guard0 rfl rfl (fun h1 => ?_) (fun h1 => ?_)
    | refine rund_guard rfl rfl (fun h1 => ?_) (fun h1 => ?_)
    | refine rund_nil ?_
    | refine aw_seq ?_
    | refine aw_region (by kernel_rfl) (Nat.le_of_ble_eq_true rfl) ?_
    | refine aw_region_d (id := 7) [0, 0, 0, 6, 14, 30, 0, 0, 192, 448, 960, 2046, 4095, 8191] 12 (by kernel_rfl) (by kernel_rfl) (by kernel_rfl) (Nat.le_of_ble_eq_true rfl) ?_
    | refine aw_block ?_
    | refine aw_cond_t rfl ?_
    | refine aw_cond_f rfl ?_
    | refine aw_cond_tp rfl (by omega) ?_
    | refine aw_cond_fp rfl (by omega) ?_
    | refine aw_cond1 rfl (fun h1 => ?_) (fun h1 => ?_)
    | refine aw_cond rfl (fun h1 => ?_) (fun h1 => ?_)
    | refine aw_skip ?_
    | refine aw_exit ?_
    | refine aw_ret ?_
    | refine pp_ret ?_
    | refine pp_normal ?_
  all_goals first | rfl | (exfalso; omega)
structure Hg where
  i : Nat
  L : List UInt8
set_option maxHeartbeats 1000000 in
theorem ac_Hex (s : ByteArray) (h : s.size = 32) (T : List UInt8) (hT : hexL s 32 = T) : ACalls Try.prog 9 [.string s] [] (.tuple #[.string ⟨T.toArray⟩, .int .i64 0]) [] := by
  refine acalls_pure Try.func9 rfl rfl rfl ?_
  repeat' first
    | refine st ?_
    | refine stm ?_
    | refine run_want rfl rfl ?_
    | refine run_unwant rfl rfl ?_
    | refine run_undef rfl rfl ?_
    | refine run_guard1t rfl rfl (by omega) ?_
    | refine run_guard1f rfl rfl (by omega) ?_
    | refine run_guard0t rfl rfl (by omega) ?_
    | refine run_guard0f rfl rfl (by omega) ?_
    | refine run_guard1 rfl rfl (fun h1 => ?_) (fun h1 => ?_)
    | refine run_guard0 rfl rfl (fun h1 => ?_) (fun h1 => ?_)
    | refine run_guard rfl rfl (fun h1 => ?_) (fun h1 => ?_)
    | refine run_nil ?_
    | refine sd ?_
    | refine sdl ?_
    | refine sdm (n := 1) ?_
    | refine sdm ?_
    | refine sdb ?_
    | refine rund_want rfl rfl ?_
    | refine rund_unwant rfl rfl ?_
    | refine rund_undef rfl rfl ?_
    | refine rund_guard1 rfl rfl (fun h1 => ?_) (fun h1 => ?_)
    | refine rund_guard0 rfl rfl (fun h1 => ?_) (fun h1 => ?_)
    | refine rund_guard rfl rfl (fun h1 => ?_) (fun h1 => ?_)
    | refine rund_nil ?_
    | refine aw_seq ?_
    | refine aw_region (by kernel_rfl) (Nat.le_of_ble_eq_true rfl) ?_
    | refine aw_region_d (id := 7) [0, 0, 0, 6, 14, 30, 0, 0, 192, 448, 960, 2046, 4095, 8191] 12 (by kernel_rfl) (by kernel_rfl) (by kernel_rfl) (Nat.le_of_ble_eq_true rfl) ?_
    | refine aw_block ?_
    | refine aw_cond_t rfl ?_
    | refine aw_cond_f rfl ?_
    | refine aw_cond_tp rfl (by omega) ?_
    | refine aw_cond_fp rfl (by omega) ?_
    | refine aw_cond1 rfl (fun h1 => ?_) (fun h1 => ?_)
    | refine aw_cond rfl (fun h1 => ?_) (fun h1 => ?_)
    | refine aw_skip ?_
    | refine aw_exit ?_
    | refine aw_ret ?_
    | refine pp_ret ?_
    | refine pp_normal ?_
  refine aw_loopg
    (S := fun x : Hg => [(0, .string s), (4, .slice (some ⟨0, 0, none⟩) (2 * x.i) (2 * x.i)), (14, .int .i64 32), (15, .int .i64 x.i)])
    (B := fun x : Hg => [some ⟨x.L.map u8v, true, 1⟩])
    (R := fun x : Hg => x.i ≤ 32 ∧ x.L.take (2 * x.i) = hexL s x.i)
    (μ := fun x : Hg => 32 - x.i) ⟨0, List.replicate 64 0⟩ (fitsD [0] (h4 := .blk rfl (.ofEq (by rw [h]; exact (List.map_replicate ..).symm)) rfl .nil) (hs := by
      refine .cons rfl (.refl _) (.cons rfl (.refl _) (.cons (u := .int .i64 (s.size : Int)) rfl ?_ (.cons rfl (.refl _) .nil)))
      rw [h]; exact .refl _)) ⟨by dsimp only; omega, rfl⟩ ?_
  rintro ⟨i, L⟩ ⟨g1, g2⟩
  dsimp only at *
  by_cases hi : i < 32
  · obtain ⟨k1, k2⟩ := hilo (byteAt s (i : Int).toNat)
    simp only [hiI, loI] at k1 k2
    have hl := hexL_len s i
    have hLl : 2 * i ≤ L.length := by rw [← g2, List.length_take] at hl; omega
    have hq : List.take (2 * i * 1) (List.drop 0 (L.map u8v)) = (hexL s i).map u8v := by rw [List.drop_zero, Nat.mul_one, ← List.map_take, g2]
    repeat' first
      | refine sd (h := ok_str_index rfl rfl k1) ?_
      | refine sd (h := ok_str_index rfl rfl k2) ?_
      | refine st ?_
      | refine stm ?_
      | refine run_want rfl rfl ?_
      | refine run_unwant rfl rfl ?_
      | refine run_undef rfl rfl ?_
      | refine run_guard1t rfl rfl (by omega) ?_
      | refine run_guard1f rfl rfl (by omega) ?_
      | refine run_guard0t rfl rfl (by omega) ?_
      | refine run_guard0f rfl rfl (by omega) ?_
      | refine run_guard1 rfl rfl (fun h1 => ?_) (fun h1 => ?_)
      | refine run_guard0 rfl rfl (fun h1 => ?_) (fun h1 => ?_)
      | refine run_guard rfl rfl (fun h1 => ?_) (fun h1 => ?_)
      | refine run_nil ?_
      | refine sd ?_
      | refine sdl ?_
      | refine sdm (n := 1) ?_
      | refine sdm ?_
      | refine sdb ?_
      | refine rund_want rfl rfl ?_
      | refine rund_unwant rfl rfl ?_
      | refine rund_undef rfl rfl ?_
      | refine rund_guard1 rfl rfl (fun h1 => ?_) (fun h1 => ?_)
      | refine rund_guard0 rfl rfl (fun h1 => ?_) (fun h1 => ?_)
      | refine rund_guard rfl rfl (fun h1 => ?_) (fun h1 => ?_)
      | refine rund_nil ?_
      | refine aw_seq ?_
      | refine aw_region (by kernel_rfl) (Nat.le_of_ble_eq_true rfl) ?_
      | refine aw_region_d (id := 7) [0, 0, 0, 6, 14, 30, 0, 0, 192, 448, 960, 2046, 4095, 8191] 12 (by kernel_rfl) (by kernel_rfl) (by kernel_rfl) (Nat.le_of_ble_eq_true rfl) ?_
      | refine aw_block ?_
      | refine aw_cond_t rfl ?_
      | refine aw_cond_f rfl ?_
      | refine aw_cond_tp rfl (by omega) ?_
      | refine aw_cond_fp rfl (by omega) ?_
      | refine aw_cond1 rfl (fun h1 => ?_) (fun h1 => ?_)
      | refine aw_cond rfl (fun h1 => ?_) (fun h1 => ?_)
      | refine aw_skip ?_
      | refine aw_exit ?_
      | refine aw_ret ?_
      | refine pp_ret ?_
      | refine pp_normal ?_
    refine Exists.intro ⟨i + 1, hexL s (i + 1)⟩ ⟨fitsD [2] (h4 := .blk rfl (.ofEq (by refine Eq.trans ?_ (renL_map (fun _ => rfl) (hexL s (i + 1))).symm; rw [hq, hexL, List.map_append]; rfl)) rfl .nil), ⟨hi, by dsimp only; rw [List.take_of_length_le (by rw [hexL_len]; exact Nat.le_refl _)]⟩, by dsimp only; omega⟩
  · obtain rfl : i = 32 := by omega
    have hl := hexL_len s 32
    rw [hT] at *
    have hLl : 64 ≤ L.length := by rw [← g2, List.length_take] at hl; omega
    have hq : List.take (2 * 32) (List.drop 0 (L.map u8v)) = T.map u8v := by rw [List.drop_zero, ← List.map_take, g2]
    repeat' first
      | refine st (h := ok_bytes_str (l := T) rfl rfl (by simp; omega) hq) ?_
      | refine st ?_
      | refine stm ?_
      | refine run_want rfl rfl ?_
      | refine run_unwant rfl rfl ?_
      | refine run_undef rfl rfl ?_
      | refine run_guard1t rfl rfl (by omega) ?_
      | refine run_guard1f rfl rfl (by omega) ?_
      | refine run_guard0t rfl rfl (by omega) ?_
      | refine run_guard0f rfl rfl (by omega) ?_
      | refine run_guard1 rfl rfl (fun h1 => ?_) (fun h1 => ?_)
      | refine run_guard0 rfl rfl (fun h1 => ?_) (fun h1 => ?_)
      | refine run_guard rfl rfl (fun h1 => ?_) (fun h1 => ?_)
      | refine run_nil ?_
      | refine sd ?_
      | refine sdl ?_
      | refine sdm (n := 1) ?_
      | refine sdm ?_
      | refine sdb ?_
      | refine rund_want rfl rfl ?_
      | refine rund_unwant rfl rfl ?_
      | refine rund_undef rfl rfl ?_
      | refine rund_guard1 rfl rfl (fun h1 => ?_) (fun h1 => ?_)
      | refine rund_guard0 rfl rfl (fun h1 => ?_) (fun h1 => ?_)
      | refine rund_guard rfl rfl (fun h1 => ?_) (fun h1 => ?_)
      | refine rund_nil ?_
      | refine aw_seq ?_
      | refine aw_region (by kernel_rfl) (Nat.le_of_ble_eq_true rfl) ?_
      | refine aw_region_d (id := 7) [0, 0, 0, 6, 14, 30, 0, 0, 192, 448, 960, 2046, 4095, 8191] 12 (by kernel_rfl) (by kernel_rfl) (by kernel_rfl) (Nat.le_of_ble_eq_true rfl) ?_
      | refine aw_block ?_
      | refine aw_cond_t rfl ?_
      | refine aw_cond_f rfl ?_
      | refine aw_cond_tp rfl (by omega) ?_
      | refine aw_cond_fp rfl (by omega) ?_
      | refine aw_cond1 rfl (fun h1 => ?_) (fun h1 => ?_)
      | refine aw_cond rfl (fun h1 => ?_) (fun h1 => ?_)
      | refine aw_skip ?_
      | refine aw_exit ?_
      | refine aw_ret ?_
      | refine pp_ret ?_
      | refine pp_normal ?_
    rfl
end Go.Proofs.Ytnicgkhffingmaa
