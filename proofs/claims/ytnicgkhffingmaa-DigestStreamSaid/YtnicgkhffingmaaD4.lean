/- Digest: a block's words. -/
import Derived.Test.YtnicgkhffingmaaI
import Derived.Test.YtnicgkhffingmaaP
set_option linter.unusedVariables false
set_option linter.unusedSimpArgs false
namespace Go.Proofs.Ytnicgkhffingmaa
open Go Av
set_option maxRecDepth 20000
def orb (w k : Int) (x : Int) : Int := bitv .or .u32 w (IntKind.u32.wrap (IntKind.u32.wrap x * 2 ^ (min (8 * (k % 4)).toNat IntKind.u32.bits)))
def wd (g : Nat → Int) : Nat → List Int
  | 0 => List.replicate 16 0
  | i + 1 => (wd g i).set (i / 4) (orb ((wd g i).getD (i / 4) 0) i (g i))
theorem wd_len (g n) : (wd g n).length = 16 := by induction n with
  | zero => rfl
  | succ i ih => simp [wd, ih]
structure Wg where
  r : Int
  V : List Int
set_option maxHeartbeats 4000000 in
theorem ac_words (L : List UInt8) (n o c : Nat) (hL : o + n ≤ L.length) (hn : n ≤ 64) (C : List Int) (hC : wd (fun j => (L.getD (o + j) 0).toNat) n = C) : ACalls Try.prog 20 [.slice (some ⟨0, o, none⟩) n c] [some ⟨L.map u8v, false, 1⟩] (.agg #[.int .u32 (C.getD 0 0), .int .u32 (C.getD 1 0), .int .u32 (C.getD 2 0), .int .u32 (C.getD 3 0), .int .u32 (C.getD 4 0), .int .u32 (C.getD 5 0), .int .u32 (C.getD 6 0), .int .u32 (C.getD 7 0), .int .u32 (C.getD 8 0), .int .u32 (C.getD 9 0), .int .u32 (C.getD 10 0), .int .u32 (C.getD 11 0), .int .u32 (C.getD 12 0), .int .u32 (C.getD 13 0), .int .u32 (C.getD 14 0), .int .u32 (C.getD 15 0)]) [none] := by
  refine acalls_law Try.func20 rfl rfl rfl ?_
  repeat' first
    | refine st ?_
    | refine stm ?_
    | refine run_want rfl rfl ?_
    | refine run_unwant rfl rfl ?_
    | refine run_undef rfl rfl ?_
    | refine run_guard1t rfl rfl (by omega) ?_
    | refine run_guard1f rfl rfl (by omega) ?_
    | refine run_guard0t rfl rfl (by omega) ?_
    | refine run_guard0f rfl rfl (by omega) ?_
    | refine run_guard1 rfl rfl (fun h1 => ?_) (fun h1 => ?_)
    | refine run_guard0 rfl rfl (fun h1 => ?_) (fun h1 => ?_)
    | refine run_guard rfl rfl (fun h1 => ?_) (fun h1 => ?_)
    | refine run_nil ?_
    | refine sd ?_
    | refine sdl ?_
    | refine sdm (n := 1) ?_
    | refine sdm ?_
    | refine sdb ?_
    | refine rund_want rfl rfl ?_
    | refine rund_unwant rfl rfl ?_
    | refine rund_undef rfl rfl ?_
    | refine rund_guard1 rfl rfl (fun h1 => ?_) (fun h1 => ?_)
    | refine rund_guard0 rfl rfl (fun h1 => ?_) (fun h1 => ?_)
    | refine rund_guard rfl rfl (fun h1 => ?_) (fun h1 => ?_)
    | refine rund_nil ?_
    | refine aw_seq ?_
    | refine aw_region (by kernel_rfl) (Nat.le_of_ble_eq_true rfl) ?_
    | refine aw_region_d (id := 5) [0, 1, 3, 7, 0, 16, 0, 64, 192, 496, 1023, 2047, 4095] 12 (by kernel_rfl) (by kernel_rfl) (by kernel_rfl) (Nat.le_of_ble_eq_true rfl) ?_
    | refine aw_block ?_
    | refine aw_cond_t rfl ?_
    | refine aw_cond_f rfl ?_
    | refine aw_cond_tp rfl (by omega) ?_
    | refine aw_cond_fp rfl (by omega) ?_
    | refine aw_cond1 rfl (fun h1 => ?_) (fun h1 => ?_)
    | refine aw_cond rfl (fun h1 => ?_) (fun h1 => ?_)
    | refine aw_skip ?_
    | refine aw_exit ?_
    | refine aw_ret ?_
    | refine pp_ret ?_
    | refine pp_normal ?_

  refine aw_loopg
    (S := fun x : Wg => [(2, .pointer (some ⟨1, 0, none⟩)), (3, .pointer (some ⟨2, 0, none⟩)), (6, .slice (some ⟨0, o, none⟩) n c), (7, .int .i64 n), (8, .int .i64 x.r)])
    (B := fun x : Wg => [some ⟨L.map u8v, false, 1⟩, some ⟨[.int .u32 0, .int .u32 0, .int .u32 0, .int .u32 0, .int .u32 0, .int .u32 0, .int .u32 0, .int .u32 0, .int .u32 0, .int .u32 0, .int .u32 0, .int .u32 0, .int .u32 0, .int .u32 0, .int .u32 0, .int .u32 0], true, 1⟩, some ⟨x.V.map (Value.int .u32), true, 1⟩])
    (R := fun x : Wg => 0 ≤ x.r ∧ x.r ≤ n ∧ x.V = wd (fun j => (L.getD (o + j) 0).toNat) x.r.toNat)
    (μ := fun x : Wg => (n - x.r).toNat) ⟨0, List.replicate 16 0⟩ (fits [0, 1, 2]) ⟨by dsimp only; omega, by dsimp only; omega, rfl⟩ ?_
  rintro ⟨r, V⟩ ⟨h1, h2, hV⟩
  dsimp only at *
  obtain ⟨r, rfl⟩ : ∃ n : Nat, r = n := ⟨r.toNat, by omega⟩
  rw [Int.toNat_natCast] at hV
  have hVl : V.length = 16 := by rw [hV, wd_len]
  have hq : (r : Int).tdiv 4 = (r / 4 : Nat) := Int.ofNat_tdiv r 4
  have hq2 : (r : Int).tmod 4 = (r : Int) % 4 := Int.tmod_eq_emod_of_nonneg (by omega)
  by_cases hr : (r : Int) < n
  · skip
    repeat' first
      | refine st ?_
      | refine stm ?_
      | refine run_want rfl rfl ?_
      | refine run_unwant rfl rfl ?_
      | refine run_undef rfl rfl ?_
      | refine run_guard1t rfl rfl (by omega) ?_
      | refine run_guard1f rfl rfl (by omega) ?_
      | refine run_guard0t rfl rfl (by omega) ?_
      | refine run_guard0f rfl rfl (by omega) ?_
      | refine run_guard1 rfl rfl (fun h1 => ?_) (fun h1 => ?_)
      | refine run_guard0 rfl rfl (fun h1 => ?_) (fun h1 => ?_)
      | refine run_guard rfl rfl (fun h1 => ?_) (fun h1 => ?_)
      | refine run_nil ?_
      | refine sd ?_
      | refine sdl ?_
      | refine sdm (n := 1) ?_
      | refine sdm ?_
      | refine sdb ?_
      | refine rund_want rfl rfl ?_
      | refine rund_unwant rfl rfl ?_
      | refine rund_undef rfl rfl ?_
      | refine rund_guard1 rfl rfl (fun h1 => ?_) (fun h1 => ?_)
      | refine rund_guard0 rfl rfl (fun h1 => ?_) (fun h1 => ?_)
      | refine rund_guard rfl rfl (fun h1 => ?_) (fun h1 => ?_)
      | refine rund_nil ?_
      | refine aw_seq ?_
      | refine aw_region (by kernel_rfl) (Nat.le_of_ble_eq_true rfl) ?_
      | refine aw_region_d (id := 5) [0, 1, 3, 7, 0, 16, 0, 64, 192, 496, 1023, 2047, 4095] 12 (by kernel_rfl) (by kernel_rfl) (by kernel_rfl) (Nat.le_of_ble_eq_true rfl) ?_
      | refine aw_block ?_
      | refine aw_cond_t rfl ?_
      | refine aw_cond_f rfl ?_
      | refine aw_cond_tp rfl (by omega) ?_
      | refine aw_cond_fp rfl (by omega) ?_
      | refine aw_cond1 rfl (fun h1 => ?_) (fun h1 => ?_)
      | refine aw_cond rfl (fun h1 => ?_) (fun h1 => ?_)
      | refine aw_skip ?_
      | refine aw_exit ?_
      | refine aw_ret ?_
      | refine pp_ret ?_
      | refine pp_normal ?_

    exact then_normal ⟨⟨_, _⟩, fits [0, 1, 2], ⟨by dsimp only; omega, by dsimp only; omega, by
      dsimp only
      rw [show ((r : Int) + 1).toNat = r + 1 by omega, wd, ← hV]
      first | rfl | (rw [show ((r : Int) / 4).toNat = r / 4 by omega]; rfl)⟩, by dsimp only; omega⟩
  · obtain rfl : r = n := by omega
    obtain ⟨a0, a1, a2, a3, a4, a5, a6, a7, b0, b1, b2, b3, b4, b5, b6, b7, rfl⟩ := list16 hVl
    repeat' first
      | refine st ?_
      | refine stm ?_
      | refine run_want rfl rfl ?_
      | refine run_unwant rfl rfl ?_
      | refine run_undef rfl rfl ?_
      | refine run_guard1t rfl rfl (by omega) ?_
      | refine run_guard1f rfl rfl (by omega) ?_
      | refine run_guard0t rfl rfl (by omega) ?_
      | refine run_guard0f rfl rfl (by omega) ?_
      | refine run_guard1 rfl rfl (fun h1 => ?_) (fun h1 => ?_)
      | refine run_guard0 rfl rfl (fun h1 => ?_) (fun h1 => ?_)
      | refine run_guard rfl rfl (fun h1 => ?_) (fun h1 => ?_)
      | refine run_nil ?_
      | refine sd ?_
      | refine sdl ?_
      | refine sdm (n := 1) ?_
      | refine sdm ?_
      | refine sdb ?_
      | refine rund_want rfl rfl ?_
      | refine rund_unwant rfl rfl ?_
      | refine rund_undef rfl rfl ?_
      | refine rund_guard1 rfl rfl (fun h1 => ?_) (fun h1 => ?_)
      | refine rund_guard0 rfl rfl (fun h1 => ?_) (fun h1 => ?_)
      | refine rund_guard rfl rfl (fun h1 => ?_) (fun h1 => ?_)
      | refine rund_nil ?_
      | refine aw_seq ?_
      | refine aw_region (by kernel_rfl) (Nat.le_of_ble_eq_true rfl) ?_
      | refine aw_region_d (id := 5) [0, 1, 3, 7, 0, 16, 0, 64, 192, 496, 1023, 2047, 4095] 12 (by kernel_rfl) (by kernel_rfl) (by kernel_rfl) (Nat.le_of_ble_eq_true rfl) ?_
      | refine aw_block ?_
      | refine aw_cond_t rfl ?_
      | refine aw_cond_f rfl ?_
      | refine aw_cond_tp rfl (by omega) ?_
      | refine aw_cond_fp rfl (by omega) ?_
      | refine aw_cond1 rfl (fun h1 => ?_) (fun h1 => ?_)
      | refine aw_cond rfl (fun h1 => ?_) (fun h1 => ?_)
      | refine aw_skip ?_
      | refine aw_exit ?_
      | refine aw_ret ?_
      | refine pp_ret ?_
      | refine pp_normal ?_

    obtain rfl := hV.trans hC
    rfl
end Go.Proofs.Ytnicgkhffingmaa
