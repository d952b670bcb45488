/- Digest: a state takes bytes in. -/
import Derived.Test.YtnicgkhffingmaaD6
set_option linter.unusedVariables false
set_option linter.unusedSimpArgs false
namespace Go.Proofs.Ytnicgkhffingmaa
open Go Av
set_option maxRecDepth 20000
/-- The chain behind k blocks. -/
def ab (X : List UInt8) (t : Int) (C : List Int) : Nat → List Int
  | 0 => C
  | k + 1 => cmp (ab X t C k) (wd (fun j => (X.getD (64 * k + j) 0).toNat) 64) (t + 64 * (k + 1)) false
theorem cmp_len (H M t l) : (cmp H M t l).length = H.length := by simp [cmp, fold8_len]
theorem ab_len (X t C k) : (ab X t C k).length = C.length := by induction k with
  | zero => rfl
  | succ k ih => simp [ab, cmp_len, ih]
theorem list8_eq {C : List Int} (h : C.length = 8) : [C.getD 0 0, C.getD 1 0, C.getD 2 0, C.getD 3 0, C.getD 4 0, C.getD 5 0, C.getD 6 0, C.getD 7 0] = C := by
  obtain ⟨a0, a1, a2, a3, a4, a5, a6, a7, rfl⟩ := list8 h
  rfl
structure Tg where
  k : Int
  o : Nat
  n : Nat
  t : Int
  c0 : Int
  c1 : Int
  c2 : Int
  c3 : Int
  c4 : Int
  c5 : Int
  c6 : Int
  c7 : Int
set_option maxHeartbeats 4000000 in
theorem ac_takeB (p0 p1 p2 p3 p4 p5 p6 p7 t : Int) (d : ByteArray) (L : List UInt8) (o n : Nat) (hL : o + n ≤ L.length) (X : List UInt8) (hX : X = (L.drop o).take n ++ d.data.toList) (h2 : X.length ≤ 1048576) (ht : 0 ≤ t) (hT : t ≤ 1099511627776) (K : Nat) (hK : K = (X.length - 1) / 64) :
    ACalls Try.prog 14 [.pointer (some ⟨0, 0, none⟩), .string d] [some ⟨[.int .u32 p0, .int .u32 p1, .int .u32 p2, .int .u32 p3, .int .u32 p4, .int .u32 p5, .int .u32 p6, .int .u32 p7, .slice (some ⟨1, o, none⟩) n n, .int .u64 t], true, 1⟩, some ⟨L.map u8v, true, 1⟩] (.tuple #[]) [some ⟨[.int .u32 ((ab X t [p0, p1, p2, p3, p4, p5, p6, p7] K).getD 0 0), .int .u32 ((ab X t [p0, p1, p2, p3, p4, p5, p6, p7] K).getD 1 0), .int .u32 ((ab X t [p0, p1, p2, p3, p4, p5, p6, p7] K).getD 2 0), .int .u32 ((ab X t [p0, p1, p2, p3, p4, p5, p6, p7] K).getD 3 0), .int .u32 ((ab X t [p0, p1, p2, p3, p4, p5, p6, p7] K).getD 4 0), .int .u32 ((ab X t [p0, p1, p2, p3, p4, p5, p6, p7] K).getD 5 0), .int .u32 ((ab X t [p0, p1, p2, p3, p4, p5, p6, p7] K).getD 6 0), .int .u32 ((ab X t [p0, p1, p2, p3, p4, p5, p6, p7] K).getD 7 0), .slice (some ⟨2, 64 * K, none⟩) (X.length - 64 * K) (X.length - 64 * K), .int .u64 (t + 64 * K)], true, 1⟩, none, some ⟨X.map u8v, true, 1⟩] := by
  have hds : d.data.toList.length = d.size := Array.length_toList (xs := d.data)
  have hXl : X.length = n + d.size := by rw [hX, List.length_append, hds, List.length_take, List.length_drop]; omega
  have hq : List.take (n * 1) (List.drop o (L.map u8v)) ++ d.data.toList.map u8v = X.map u8v := by rw [hX, Nat.mul_one, List.map_append, List.map_take, List.map_drop]
  refine acalls_of_aw Try.func14 rfl rfl ?_
  repeat' first
    | refine st ?_
    | refine stm ?_
    | refine run_want rfl rfl ?_
    | refine run_unwant rfl rfl ?_
    | refine run_undef rfl rfl ?_
    | refine run_guard1t rfl rfl (by omega) ?_
    | refine run_guard1f rfl rfl (by omega) ?_
    | refine run_guard0t rfl rfl (by omega) ?_
    | refine run_guard0f rfl rfl (by omega) ?_
    | refine run_guard1 rfl rfl (fun h1 => ?_) (fun h1 => ?_)
    | refine run_guard0 rfl rfl (fun h1 => ?_) (fun h1 => ?_)
    | refine run_guard rfl rfl (fun h1 => ?_) (fun h1 => ?_)
    | refine run_nil ?_
    | refine sd ?_
    | refine sdl ?_
    | refine sdm (n := 1) ?_
    | refine sdm ?_
    | refine sdb ?_
    | refine rund_want rfl rfl ?_
    | refine rund_unwant rfl rfl ?_
    | refine rund_undef rfl rfl ?_
    | refine rund_guard1 rfl rfl (fun h1 => ?_) (fun h1 => ?_)
    | refine rund_guard0 rfl rfl (fun h1 => ?_) (fun h1 => ?_)
    | refine rund_guard rfl rfl (fun h1 => ?_) (fun h1 => ?_)
    | refine rund_nil ?_
    | refine aw_seq ?_
    | refine aw_region (by kernel_rfl) (Nat.le_of_ble_eq_true rfl) ?_
    | refine aw_region_d (id := 3) [0, 0, 2, 6, 14, 0, 32, 96, 224, 480, 992, 0, 2048, 6144, 14336, 32766, 65535, 131071, 262143] 18 (by kernel_rfl) (by kernel_rfl) (by kernel_rfl) (Nat.le_of_ble_eq_true rfl) ?_
    | refine aw_block ?_
    | refine aw_cond_t rfl ?_
    | refine aw_cond_f rfl ?_
    | refine aw_cond_tp rfl (by omega) ?_
    | refine aw_cond_fp rfl (by omega) ?_
    | refine aw_cond1 rfl (fun h1 => ?_) (fun h1 => ?_)
    | refine aw_cond rfl (fun h1 => ?_) (fun h1 => ?_)
    | refine aw_skip ?_
    | refine aw_exit ?_
    | refine aw_ret ?_
    | refine pp_ret ?_
    | refine pp_normal ?_
  rw [hq]
  refine aw_loopg
    (S := fun x : Tg => [(0, .pointer (some ⟨0, 0, none⟩))])
    (B := fun x : Tg => [some ⟨[.int .u32 x.c0, .int .u32 x.c1, .int .u32 x.c2, .int .u32 x.c3, .int .u32 x.c4, .int .u32 x.c5, .int .u32 x.c6, .int .u32 x.c7, .slice (some ⟨2, x.o, none⟩) x.n x.n, .int .u64 x.t], true, 1⟩, none, some ⟨X.map u8v, true, 1⟩])
    (R := fun x : Tg => 0 ≤ x.k ∧ x.o = 64 * x.k.toNat ∧ x.o + x.n = X.length ∧ (0 < x.n ∨ X.length = 0) ∧ x.t = t + 64 * x.k ∧ [x.c0, x.c1, x.c2, x.c3, x.c4, x.c5, x.c6, x.c7] = ab X t [p0, p1, p2, p3, p4, p5, p6, p7] x.k.toNat)
    (μ := fun x : Tg => x.n) ⟨0, 0, n + d.size, t, p0, p1, p2, p3, p4, p5, p6, p7⟩ (fits [0, 1, 2]) ⟨by dsimp only; omega, by dsimp only; omega, by dsimp only; omega, by dsimp only; omega, by dsimp only; omega, rfl⟩ ?_
  rintro ⟨k, o1, n1, t1, v0, v1, v2, v3, v4, v5, v6, v7⟩ ⟨g1, g2, g3, g4, g5, hC⟩
  dsimp only at *
  obtain ⟨k, rfl⟩ : ∃ n : Nat, k = n := ⟨k.toNat, by omega⟩
  rw [Int.toNat_natCast] at g2 hC
  by_cases hn1 : 64 < n1
  · obtain ⟨W, hW⟩ : ∃ W, wd (fun j => (X.getD (o1 + j) 0).toNat) 64 = W := ⟨_, rfl⟩
    have HW := ac_words X 64 o1 64 (by omega) (by omega) W hW
    have hWl : W.length = 16 := by rw [← hW, wd_len]
    have hw : IntKind.u64.wrap (t1 + 64) = t1 + 64 := wrap_id (by simp [IntKind.min, IntKind.signed]; omega) (by simp [IntKind.max, IntKind.signed, IntKind.bits]; omega)
    obtain ⟨C', hC'⟩ : ∃ C', cmp [v0, v1, v2, v3, v4, v5, v6, v7] [W.getD 0 0, W.getD 1 0, W.getD 2 0, W.getD 3 0, W.getD 4 0, W.getD 5 0, W.getD 6 0, W.getD 7 0, W.getD 8 0, W.getD 9 0, W.getD 10 0, W.getD 11 0, W.getD 12 0, W.getD 13 0, W.getD 14 0, W.getD 15 0] (IntKind.u64.wrap (t1 + 64)) false = C' := ⟨_, rfl⟩
    have HC := aw_compress v0 v1 v2 v3 v4 v5 v6 v7 (W.getD 0 0) (W.getD 1 0) (W.getD 2 0) (W.getD 3 0) (W.getD 4 0) (W.getD 5 0) (W.getD 6 0) (W.getD 7 0) (W.getD 8 0) (W.getD 9 0) (W.getD 10 0) (W.getD 11 0) (W.getD 12 0) (W.getD 13 0) (W.getD 14 0) (W.getD 15 0) (IntKind.u64.wrap (t1 + 64)) false C' hC'
    have hCl : C'.length = 8 := by rw [← hC', cmp_len]; rfl
    repeat' first
      | refine st ?_
      | refine st_call (HC) ?_
      | refine sdR [2] HW ?_
      | refine stm ?_
      | refine run_want rfl rfl ?_
      | refine run_unwant rfl rfl ?_
      | refine run_undef rfl rfl ?_
      | refine run_guard1t rfl rfl (by omega) ?_
      | refine run_guard1f rfl rfl (by omega) ?_
      | refine run_guard0t rfl rfl (by omega) ?_
      | refine run_guard0f rfl rfl (by omega) ?_
      | refine run_guard1 rfl rfl (fun h1 => ?_) (fun h1 => ?_)
      | refine run_guard0 rfl rfl (fun h1 => ?_) (fun h1 => ?_)
      | refine run_guard rfl rfl (fun h1 => ?_) (fun h1 => ?_)
      | refine run_nil ?_
      | refine sd ?_
      | refine sdl ?_
      | refine sd_call (HC) ?_
      | refine sdm (n := 1) ?_
      | refine sdm ?_
      | refine sdb ?_
      | refine rund_want rfl rfl ?_
      | refine rund_unwant rfl rfl ?_
      | refine rund_undef rfl rfl ?_
      | refine rund_guard1 rfl rfl (fun h1 => ?_) (fun h1 => ?_)
      | refine rund_guard0 rfl rfl (fun h1 => ?_) (fun h1 => ?_)
      | refine rund_guard rfl rfl (fun h1 => ?_) (fun h1 => ?_)
      | refine rund_nil ?_
      | refine aw_seq ?_
      | refine aw_region (by kernel_rfl) (Nat.le_of_ble_eq_true rfl) ?_
      | refine aw_region_d (id := 3) [0, 0, 2, 6, 14, 0, 32, 96, 224, 480, 992, 0, 2048, 6144, 14336, 32766, 65535, 131071, 262143] 18 (by kernel_rfl) (by kernel_rfl) (by kernel_rfl) (Nat.le_of_ble_eq_true rfl) ?_
      | refine aw_block ?_
      | refine aw_cond_t rfl ?_
      | refine aw_cond_f rfl ?_
      | refine aw_cond_tp rfl (by omega) ?_
      | refine aw_cond_fp rfl (by omega) ?_
      | refine aw_cond1 rfl (fun h1 => ?_) (fun h1 => ?_)
      | refine aw_cond rfl (fun h1 => ?_) (fun h1 => ?_)
      | refine aw_skip ?_
      | refine aw_exit ?_
      | refine aw_ret ?_
      | refine pp_ret ?_
      | refine pp_normal ?_
    refine Exists.intro ⟨k + 1, _, _, _, _, _, _, _, _, _, _, _⟩ ⟨fits [0, 1, 2], ⟨by dsimp only; omega, by dsimp only; omega, by dsimp only; omega, by dsimp only; omega, by dsimp only; exact hw.trans (by omega), ?_⟩, by dsimp only; omega⟩
    dsimp only
    rw [show ((k : Int) + 1).toNat = k + 1 by omega, ab, ← hC]
    refine (list8_eq hCl).trans ?_
    rw [← hC', list16_eq hWl, hw, ← hW, g2, g5, Int.mul_add, ← Int.add_assoc]
    rfl
  · obtain rfl : K = k := by omega
    repeat' first
      | refine st ?_
      | refine stm ?_
      | refine run_want rfl rfl ?_
      | refine run_unwant rfl rfl ?_
      | refine run_undef rfl rfl ?_
      | refine run_guard1t rfl rfl (by omega) ?_
      | refine run_guard1f rfl rfl (by omega) ?_
      | refine run_guard0t rfl rfl (by omega) ?_
      | refine run_guard0f rfl rfl (by omega) ?_
      | refine run_guard1 rfl rfl (fun h1 => ?_) (fun h1 => ?_)
      | refine run_guard0 rfl rfl (fun h1 => ?_) (fun h1 => ?_)
      | refine run_guard rfl rfl (fun h1 => ?_) (fun h1 => ?_)
      | refine run_nil ?_
      | refine sd ?_
      | refine sdl ?_
      | refine sdm (n := 1) ?_
      | refine sdm ?_
      | refine sdb ?_
      | refine rund_want rfl rfl ?_
      | refine rund_unwant rfl rfl ?_
      | refine rund_undef rfl rfl ?_
      | refine rund_guard1 rfl rfl (fun h1 => ?_) (fun h1 => ?_)
      | refine rund_guard0 rfl rfl (fun h1 => ?_) (fun h1 => ?_)
      | refine rund_guard rfl rfl (fun h1 => ?_) (fun h1 => ?_)
      | refine rund_nil ?_
      | refine aw_seq ?_
      | refine aw_region (by kernel_rfl) (Nat.le_of_ble_eq_true rfl) ?_
      | refine aw_region_d (id := 3) [0, 0, 2, 6, 14, 0, 32, 96, 224, 480, 992, 0, 2048, 6144, 14336, 32766, 65535, 131071, 262143] 18 (by kernel_rfl) (by kernel_rfl) (by kernel_rfl) (Nat.le_of_ble_eq_true rfl) ?_
      | refine aw_block ?_
      | refine aw_cond_t rfl ?_
      | refine aw_cond_f rfl ?_
      | refine aw_cond_tp rfl (by omega) ?_
      | refine aw_cond_fp rfl (by omega) ?_
      | refine aw_cond1 rfl (fun h1 => ?_) (fun h1 => ?_)
      | refine aw_cond rfl (fun h1 => ?_) (fun h1 => ?_)
      | refine aw_skip ?_
      | refine aw_exit ?_
      | refine aw_ret ?_
      | refine pp_ret ?_
      | refine pp_normal ?_
    have e0 : n1 = X.length - 64 * K := by omega
    subst g2 g5 e0
    rw [← hC]
    exact pm_normal _ (renumA [0, 1, 2]) rfl
set_option maxHeartbeats 4000000 in
theorem ac_takeBn (p0 p1 p2 p3 p4 p5 p6 p7 t : Int) (q : Int) (d : ByteArray) (L : List UInt8) (o n : Nat) (hL : o + n ≤ L.length) (X : List UInt8) (hX : X = (L.drop o).take n ++ d.data.toList) (h2 : X.length ≤ 1048576) (ht : 0 ≤ t) (hT : t ≤ 1099511627776) (K : Nat) (hK : K = (X.length - 1) / 64) :
    ACalls Try.prog 14 [.pointer (some ⟨0, 0, none⟩), .string d] [some ⟨[.int .u32 p0, .int .u32 p1, .int .u32 p2, .int .u32 p3, .int .u32 p4, .int .u32 p5, .int .u32 p6, .int .u32 p7, .slice (some ⟨1, o, none⟩) n n, .int .u64 t, .int .i64 q], true, 1⟩, some ⟨L.map u8v, true, 1⟩] (.tuple #[]) [some ⟨[.int .u32 ((ab X t [p0, p1, p2, p3, p4, p5, p6, p7] K).getD 0 0), .int .u32 ((ab X t [p0, p1, p2, p3, p4, p5, p6, p7] K).getD 1 0), .int .u32 ((ab X t [p0, p1, p2, p3, p4, p5, p6, p7] K).getD 2 0), .int .u32 ((ab X t [p0, p1, p2, p3, p4, p5, p6, p7] K).getD 3 0), .int .u32 ((ab X t [p0, p1, p2, p3, p4, p5, p6, p7] K).getD 4 0), .int .u32 ((ab X t [p0, p1, p2, p3, p4, p5, p6, p7] K).getD 5 0), .int .u32 ((ab X t [p0, p1, p2, p3, p4, p5, p6, p7] K).getD 6 0), .int .u32 ((ab X t [p0, p1, p2, p3, p4, p5, p6, p7] K).getD 7 0), .slice (some ⟨2, 64 * K, none⟩) (X.length - 64 * K) (X.length - 64 * K), .int .u64 (t + 64 * K), .int .i64 q], true, 1⟩, none, some ⟨X.map u8v, true, 1⟩] := by
  have hds : d.data.toList.length = d.size := Array.length_toList (xs := d.data)
  have hXl : X.length = n + d.size := by rw [hX, List.length_append, hds, List.length_take, List.length_drop]; omega
  have hq : List.take (n * 1) (List.drop o (L.map u8v)) ++ d.data.toList.map u8v = X.map u8v := by rw [hX, Nat.mul_one, List.map_append, List.map_take, List.map_drop]
  refine acalls_of_aw Try.func14 rfl rfl ?_
  repeat' first
    | refine st ?_
    | refine stm ?_
    | refine run_want rfl rfl ?_
    | refine run_unwant rfl rfl ?_
    | refine run_undef rfl rfl ?_
    | refine run_guard1t rfl rfl (by omega) ?_
    | refine run_guard1f rfl rfl (by omega) ?_
    | refine run_guard0t rfl rfl (by omega) ?_
    | refine run_guard0f rfl rfl (by omega) ?_
    | refine run_guard1 rfl rfl (fun h1 => ?_) (fun h1 => ?_)
    | refine run_guard0 rfl rfl (fun h1 => ?_) (fun h1 => ?_)
    | refine run_guard rfl rfl (fun h1 => ?_) (fun h1 => ?_)
    | refine run_nil ?_
    | refine sd ?_
    | refine sdl ?_
    | refine sdm (n := 1) ?_
    | refine sdm ?_
    | refine sdb ?_
    | refine rund_want rfl rfl ?_
    | refine rund_unwant rfl rfl ?_
    | refine rund_undef rfl rfl ?_
    | refine rund_guard1 rfl rfl (fun h1 => ?_) (fun h1 => ?_)
    | refine rund_guard0 rfl rfl (fun h1 => ?_) (fun h1 => ?_)
    | refine rund_guard rfl rfl (fun h1 => ?_) (fun h1 => ?_)
    | refine rund_nil ?_
    | refine aw_seq ?_
    | refine aw_region (by kernel_rfl) (Nat.le_of_ble_eq_true rfl) ?_
    | refine aw_region_d (id := 3) [0, 0, 2, 6, 14, 0, 32, 96, 224, 480, 992, 0, 2048, 6144, 14336, 32766, 65535, 131071, 262143] 18 (by kernel_rfl) (by kernel_rfl) (by kernel_rfl) (Nat.le_of_ble_eq_true rfl) ?_
    | refine aw_block ?_
    | refine aw_cond_t rfl ?_
    | refine aw_cond_f rfl ?_
    | refine aw_cond_tp rfl (by omega) ?_
    | refine aw_cond_fp rfl (by omega) ?_
    | refine aw_cond1 rfl (fun h1 => ?_) (fun h1 => ?_)
    | refine aw_cond rfl (fun h1 => ?_) (fun h1 => ?_)
    | refine aw_skip ?_
    | refine aw_exit ?_
    | refine aw_ret ?_
    | refine pp_ret ?_
    | refine pp_normal ?_
  rw [hq]
  refine aw_loopg
    (S := fun x : Tg => [(0, .pointer (some ⟨0, 0, none⟩))])
    (B := fun x : Tg => [some ⟨[.int .u32 x.c0, .int .u32 x.c1, .int .u32 x.c2, .int .u32 x.c3, .int .u32 x.c4, .int .u32 x.c5, .int .u32 x.c6, .int .u32 x.c7, .slice (some ⟨2, x.o, none⟩) x.n x.n, .int .u64 x.t, .int .i64 q], true, 1⟩, none, some ⟨X.map u8v, true, 1⟩])
    (R := fun x : Tg => 0 ≤ x.k ∧ x.o = 64 * x.k.toNat ∧ x.o + x.n = X.length ∧ (0 < x.n ∨ X.length = 0) ∧ x.t = t + 64 * x.k ∧ [x.c0, x.c1, x.c2, x.c3, x.c4, x.c5, x.c6, x.c7] = ab X t [p0, p1, p2, p3, p4, p5, p6, p7] x.k.toNat)
    (μ := fun x : Tg => x.n) ⟨0, 0, n + d.size, t, p0, p1, p2, p3, p4, p5, p6, p7⟩ (fits [0, 1, 2]) ⟨by dsimp only; omega, by dsimp only; omega, by dsimp only; omega, by dsimp only; omega, by dsimp only; omega, rfl⟩ ?_
  rintro ⟨k, o1, n1, t1, v0, v1, v2, v3, v4, v5, v6, v7⟩ ⟨g1, g2, g3, g4, g5, hC⟩
  dsimp only at *
  obtain ⟨k, rfl⟩ : ∃ n : Nat, k = n := ⟨k.toNat, by omega⟩
  rw [Int.toNat_natCast] at g2 hC
  by_cases hn1 : 64 < n1
  · obtain ⟨W, hW⟩ : ∃ W, wd (fun j => (X.getD (o1 + j) 0).toNat) 64 = W := ⟨_, rfl⟩
    have HW := ac_words X 64 o1 64 (by omega) (by omega) W hW
    have hWl : W.length = 16 := by rw [← hW, wd_len]
    have hw : IntKind.u64.wrap (t1 + 64) = t1 + 64 := wrap_id (by simp [IntKind.min, IntKind.signed]; omega) (by simp [IntKind.max, IntKind.signed, IntKind.bits]; omega)
    obtain ⟨C', hC'⟩ : ∃ C', cmp [v0, v1, v2, v3, v4, v5, v6, v7] [W.getD 0 0, W.getD 1 0, W.getD 2 0, W.getD 3 0, W.getD 4 0, W.getD 5 0, W.getD 6 0, W.getD 7 0, W.getD 8 0, W.getD 9 0, W.getD 10 0, W.getD 11 0, W.getD 12 0, W.getD 13 0, W.getD 14 0, W.getD 15 0] (IntKind.u64.wrap (t1 + 64)) false = C' := ⟨_, rfl⟩
    have HC := aw_compress v0 v1 v2 v3 v4 v5 v6 v7 (W.getD 0 0) (W.getD 1 0) (W.getD 2 0) (W.getD 3 0) (W.getD 4 0) (W.getD 5 0) (W.getD 6 0) (W.getD 7 0) (W.getD 8 0) (W.getD 9 0) (W.getD 10 0) (W.getD 11 0) (W.getD 12 0) (W.getD 13 0) (W.getD 14 0) (W.getD 15 0) (IntKind.u64.wrap (t1 + 64)) false C' hC'
    have hCl : C'.length = 8 := by rw [← hC', cmp_len]; rfl
    repeat' first
      | refine st ?_
      | refine st_call (HC) ?_
      | refine sdR [2] HW ?_
      | refine stm ?_
      | refine run_want rfl rfl ?_
      | refine run_unwant rfl rfl ?_
      | refine run_undef rfl rfl ?_
      | refine run_guard1t rfl rfl (by omega) ?_
      | refine run_guard1f rfl rfl (by omega) ?_
      | refine run_guard0t rfl rfl (by omega) ?_
      | refine run_guard0f rfl rfl (by omega) ?_
      | refine run_guard1 rfl rfl (fun h1 => ?_) (fun h1 => ?_)
      | refine run_guard0 rfl rfl (fun h1 => ?_) (fun h1 => ?_)
      | refine run_guard rfl rfl (fun h1 => ?_) (fun h1 => ?_)
      | refine run_nil ?_
      | refine sd ?_
      | refine sdl ?_
      | refine sd_call (HC) ?_
      | refine sdm (n := 1) ?_
      | refine sdm ?_
      | refine sdb ?_
      | refine rund_want rfl rfl ?_
      | refine rund_unwant rfl rfl ?_
      | refine rund_undef rfl rfl ?_
      | refine rund_guard1 rfl rfl (fun h1 => ?_) (fun h1 => ?_)
      | refine rund_guard0 rfl rfl (fun h1 => ?_) (fun h1 => ?_)
      | refine rund_guard rfl rfl (fun h1 => ?_) (fun h1 => ?_)
      | refine rund_nil ?_
      | refine aw_seq ?_
      | refine aw_region (by kernel_rfl) (Nat.le_of_ble_eq_true rfl) ?_
      | refine aw_region_d (id := 3) [0, 0, 2, 6, 14, 0, 32, 96, 224, 480, 992, 0, 2048, 6144, 14336, 32766, 65535, 131071, 262143] 18 (by kernel_rfl) (by kernel_rfl) (by kernel_rfl) (Nat.le_of_ble_eq_true rfl) ?_
      | refine aw_block ?_
      | refine aw_cond_t rfl ?_
      | refine aw_cond_f rfl ?_
      | refine aw_cond_tp rfl (by omega) ?_
      | refine aw_cond_fp rfl (by omega) ?_
      | refine aw_cond1 rfl (fun h1 => ?_) (fun h1 => ?_)
      | refine aw_cond rfl (fun h1 => ?_) (fun h1 => ?_)
      | refine aw_skip ?_
      | refine aw_exit ?_
      | refine aw_ret ?_
      | refine pp_ret ?_
      | refine pp_normal ?_
    refine Exists.intro ⟨k + 1, _, _, _, _, _, _, _, _, _, _, _⟩ ⟨fits [0, 1, 2], ⟨by dsimp only; omega, by dsimp only; omega, by dsimp only; omega, by dsimp only; omega, by dsimp only; exact hw.trans (by omega), ?_⟩, by dsimp only; omega⟩
    dsimp only
    rw [show ((k : Int) + 1).toNat = k + 1 by omega, ab, ← hC]
    refine (list8_eq hCl).trans ?_
    rw [← hC', list16_eq hWl, hw, ← hW, g2, g5, Int.mul_add, ← Int.add_assoc]
    rfl
  · obtain rfl : K = k := by omega
    repeat' first
      | refine st ?_
      | refine stm ?_
      | refine run_want rfl rfl ?_
      | refine run_unwant rfl rfl ?_
      | refine run_undef rfl rfl ?_
      | refine run_guard1t rfl rfl (by omega) ?_
      | refine run_guard1f rfl rfl (by omega) ?_
      | refine run_guard0t rfl rfl (by omega) ?_
      | refine run_guard0f rfl rfl (by omega) ?_
      | refine run_guard1 rfl rfl (fun h1 => ?_) (fun h1 => ?_)
      | refine run_guard0 rfl rfl (fun h1 => ?_) (fun h1 => ?_)
      | refine run_guard rfl rfl (fun h1 => ?_) (fun h1 => ?_)
      | refine run_nil ?_
      | refine sd ?_
      | refine sdl ?_
      | refine sdm (n := 1) ?_
      | refine sdm ?_
      | refine sdb ?_
      | refine rund_want rfl rfl ?_
      | refine rund_unwant rfl rfl ?_
      | refine rund_undef rfl rfl ?_
      | refine rund_guard1 rfl rfl (fun h1 => ?_) (fun h1 => ?_)
      | refine rund_guard0 rfl rfl (fun h1 => ?_) (fun h1 => ?_)
      | refine rund_guard rfl rfl (fun h1 => ?_) (fun h1 => ?_)
      | refine rund_nil ?_
      | refine aw_seq ?_
      | refine aw_region (by kernel_rfl) (Nat.le_of_ble_eq_true rfl) ?_
      | refine aw_region_d (id := 3) [0, 0, 2, 6, 14, 0, 32, 96, 224, 480, 992, 0, 2048, 6144, 14336, 32766, 65535, 131071, 262143] 18 (by kernel_rfl) (by kernel_rfl) (by kernel_rfl) (Nat.le_of_ble_eq_true rfl) ?_
      | refine aw_block ?_
      | refine aw_cond_t rfl ?_
      | refine aw_cond_f rfl ?_
      | refine aw_cond_tp rfl (by omega) ?_
      | refine aw_cond_fp rfl (by omega) ?_
      | refine aw_cond1 rfl (fun h1 => ?_) (fun h1 => ?_)
      | refine aw_cond rfl (fun h1 => ?_) (fun h1 => ?_)
      | refine aw_skip ?_
      | refine aw_exit ?_
      | refine aw_ret ?_
      | refine pp_ret ?_
      | refine pp_normal ?_
    have e0 : n1 = X.length - 64 * K := by omega
    subst g2 g5 e0
    rw [← hC]
    exact pm_normal _ (renumA [0, 1, 2]) rfl
end Go.Proofs.Ytnicgkhffingmaa
