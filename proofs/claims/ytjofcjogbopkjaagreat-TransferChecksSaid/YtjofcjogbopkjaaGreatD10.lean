/- Digest: the state's digest. Digest: a state takes bytes in. Digest: a state begins; whole digests. Digest: the reference's digests. Digest: the reference's digests, with a key and without. -/
import Derived.Test.YtjofcjogbopkjaaGreatVL
import Derived.Test.YtjofcjogbopkjaaGreatD1
import Derived.Test.YtjofcjogbopkjaaGreatVE
import Derived.Test.YtjofcjogbopkjaaGreatVF
import Derived.Test.YtjofcjogbopkjaaGreatD5
set_option linter.unusedVariables false
set_option linter.unusedSimpArgs false
namespace Go.Proofs.YtjofcjogbopkjaaGreat
open Go Av
set_option maxRecDepth 20000
def b8 (x : Int) : UInt8 := UInt8.ofNat (IntKind.u8.wrap x).toNat
theorem u8v_b8 (x : Int) : u8v (b8 x) = .int .u8 (IntKind.u8.wrap x) := by
  have h := wrap8 x
  simp only [u8v, b8]
  congr 1
  have : (UInt8.ofNat (IntKind.u8.wrap x).toNat).toNat = (IntKind.u8.wrap x).toNat := by
    rw [UInt8.toNat_ofNat']
    omega
  rw [this]
  omega
def outB (C : List Int) : Nat → List UInt8
  | 0 => []
  | i + 1 => outB C i ++ [b8 (C.getD i 0), b8 (C.getD i 0 / 2 ^ (min (Int.toNat 8) IntKind.u32.bits)), b8 (C.getD i 0 / 2 ^ (min (Int.toNat 16) IntKind.u32.bits)), b8 (C.getD i 0 / 2 ^ (min (Int.toNat 24) IntKind.u32.bits))]
theorem list16_eq {W : List Int} (h : W.length = 16) : [(W.getD 0 0), (W.getD 1 0), (W.getD 2 0), (W.getD 3 0), (W.getD 4 0), (W.getD 5 0), (W.getD 6 0), (W.getD 7 0), (W.getD 8 0), (W.getD 9 0), (W.getD 10 0), (W.getD 11 0), (W.getD 12 0), (W.getD 13 0), (W.getD 14 0), (W.getD 15 0)] = W := by
  obtain ⟨a0, a1, a2, a3, a4, a5, a6, a7, b0, b1, b2, b3, b4, b5, b6, b7, rfl⟩ := list16 h
  rfl
set_option maxHeartbeats 4000000 in
theorem ac_sum1 (p0 p1 p2 p3 p4 p5 p6 p7 t : Int) (L : List UInt8) (n o : Nat) (ht : 0 ≤ t) (hn : n ≤ 64) (hL : o + n ≤ L.length) (hT : t + n ≤ 9223372036854775807) (C : List Int) (hC : cmp [p0, p1, p2, p3, p4, p5, p6, p7] (wd (fun j => (L.getD (o + j) 0).toNat) n) (t + n) true = C) :
    ACalls Tryz.prog 84 [.agg #[.int .u32 p0, .int .u32 p1, .int .u32 p2, .int .u32 p3, .int .u32 p4, .int .u32 p5, .int .u32 p6, .int .u32 p7, .slice (some ⟨0, o, none⟩) n n, .int .u64 t]] [some ⟨L.map u8v, false, 1⟩] (.string ⟨(outB C 8).toArray⟩) [none] := by
  obtain ⟨W, hW⟩ : ∃ W, wd (fun j => (L.getD (o + j) 0).toNat) n = W := ⟨_, rfl⟩
  have HW := ac_words L n o n hL hn W hW
  have hWl : W.length = 16 := by rw [← hW, wd_len]
  rw [hW, ← list16_eq hWl] at hC
  have hw : IntKind.u64.wrap (t + n) = t + n := wrap_id (by simp [IntKind.min, IntKind.signed]; omega) (by simp [IntKind.max, IntKind.signed, IntKind.bits]; omega)
  have HC := aw_compress p0 p1 p2 p3 p4 p5 p6 p7 (W.getD 0 0) (W.getD 1 0) (W.getD 2 0) (W.getD 3 0) (W.getD 4 0) (W.getD 5 0) (W.getD 6 0) (W.getD 7 0) (W.getD 8 0) (W.getD 9 0) (W.getD 10 0) (W.getD 11 0) (W.getD 12 0) (W.getD 13 0) (W.getD 14 0) (W.getD 15 0) (IntKind.u64.wrap (t + n)) true C (by rw [hw]; exact hC)
  refine acalls_law Tryz.func84 rfl rfl rfl ?_
  repeat' first | refine st (h := ok_bytes_str (l := outB C 8) rfl rfl (Nat.le_of_ble_eq_true rfl) (by simp only [outB, List.nil_append, List.cons_append, List.append_nil, List.map_cons, List.map_nil, u8v_b8]; rfl)) ?_ | refine st ?_ | refine sdR [0] HW ?_ | refine aw_loop_in ?_ | refine awl_round ?_ | refine stm ?_ | refine run_nil ?_ | refine sd ?_ | refine sdl ?_ | refine sd_call (HC) ?_ | refine rund_nil ?_ | refine Jz ?_ | refine Jw ?_ | refine J0 (id := 2) [0,1,0,4,12,0,32,0,128,384,896,2016,4095,0] 14 ?_ | refine aw_block ?_ | refine Jq ?_ | refine Jr ?_ | refine Jy ?_ | refine aw_exit ?_ | refine aw_ret ?_ | refine pp_ret ?_
  all_goals rfl
theorem ac_words_nil : ACalls Tryz.prog 97 [.slice none 0 0] [] (.agg #[.int .u32 0, .int .u32 0, .int .u32 0, .int .u32 0, .int .u32 0, .int .u32 0, .int .u32 0, .int .u32 0, .int .u32 0, .int .u32 0, .int .u32 0, .int .u32 0, .int .u32 0, .int .u32 0, .int .u32 0, .int .u32 0]) [] := by
  refine acalls_pure Tryz.func97 rfl rfl rfl ?_
  repeat' first | refine st ?_ | refine stm ?_ | refine run_nil ?_ | refine Jz ?_ | refine Jw ?_ | refine aw_block ?_
  refine aw_loop_in ?_
  repeat' first | refine st ?_ | refine awl_round ?_ | refine stm ?_ | refine run_nil ?_ | refine Jz ?_ | refine Jw ?_ | refine Jr ?_ | refine aw_exit ?_ | refine aw_ret ?_ | refine pp_ret ?_
  all_goals rfl
set_option maxHeartbeats 4000000 in
theorem ac_sum0 (p0 p1 p2 p3 p4 p5 p6 p7 t : Int) (ht : 0 ≤ t) (hT : t ≤ 9223372036854775807) (C : List Int) (hC : cmp [p0, p1, p2, p3, p4, p5, p6, p7] (wd (fun _ => 0) 0) t true = C) :
    ACalls Tryz.prog 84 [.agg #[.int .u32 p0, .int .u32 p1, .int .u32 p2, .int .u32 p3, .int .u32 p4, .int .u32 p5, .int .u32 p6, .int .u32 p7, .slice none 0 0, .int .u64 t]] [] (.string ⟨(outB C 8).toArray⟩) [] := by
  have hw : IntKind.u64.wrap (t + 0) = t := by rw [Int.add_zero]; exact wrap_id (by simp [IntKind.min, IntKind.signed]; omega) (by simp [IntKind.max, IntKind.signed, IntKind.bits]; omega)
  have HC := aw_compress p0 p1 p2 p3 p4 p5 p6 p7 0 0 0 0 0 0 0 0 0 0 0 0 0 0 0 0 (IntKind.u64.wrap (t + 0)) true C (by rw [hw]; exact hC)
  refine acalls_pure Tryz.func84 rfl rfl rfl ?_
  repeat' first | refine st (h := ok_bytes_str (l := outB C 8) rfl rfl (Nat.le_of_ble_eq_true rfl) (by simp only [outB, List.nil_append, List.cons_append, List.append_nil, List.map_cons, List.map_nil, u8v_b8]; rfl)) ?_ | refine st ?_ | refine aw_loop_in ?_ | refine awl_round ?_ | refine stm ?_ | refine run_nil ?_ | refine sd ?_ | refine sdl ?_ | refine sd_call (HC) ?_ | refine sd_call (ac_words_nil) ?_ | refine rund_nil ?_ | refine Jz ?_ | refine Jw ?_ | refine J0 (id := 2) [0,1,0,4,12,0,32,0,128,384,896,2016,4095,0] 14 ?_ | refine aw_block ?_ | refine Jq ?_ | refine Jr ?_ | refine Jy ?_ | refine aw_exit ?_ | refine aw_ret ?_ | refine pp_ret ?_
  all_goals rfl
end Go.Proofs.YtjofcjogbopkjaaGreat
namespace Go.Proofs.YtjofcjogbopkjaaGreat
open Go Av
set_option maxRecDepth 20000
/-- The chain behind k blocks. -/
def ab (X : List UInt8) (t : Int) (C : List Int) : Nat → List Int
  | 0 => C
  | k + 1 => cmp (ab X t C k) (wd (fun j => (X.getD (64 * k + j) 0).toNat) 64) (t + 64 * (k + 1)) false
theorem cmp_len (H M t l) : (cmp H M t l).length = H.length := by simp [cmp, fold8_len]
theorem ab_len (X t C k) : (ab X t C k).length = C.length := by induction k with
  | zero => rfl
  | succ k ih => simp [ab, cmp_len, ih]
theorem list8_eq {C : List Int} (h : C.length = 8) : [C.getD 0 0, C.getD 1 0, C.getD 2 0, C.getD 3 0, C.getD 4 0, C.getD 5 0, C.getD 6 0, C.getD 7 0] = C := by
  obtain ⟨a0, a1, a2, a3, a4, a5, a6, a7, rfl⟩ := list8 h
  rfl
structure Tg where
  k : Int
  o : Nat
  n : Nat
  t : Int
  c0 : Int
  c1 : Int
  c2 : Int
  c3 : Int
  c4 : Int
  c5 : Int
  c6 : Int
  c7 : Int
set_option maxHeartbeats 4000000 in
theorem ac_takeB (p0 p1 p2 p3 p4 p5 p6 p7 t : Int) (d : ByteArray) (L : List UInt8) (o n : Nat) (hL : o + n ≤ L.length) (X : List UInt8) (hX : X = (L.drop o).take n ++ d.data.toList) (h2 : X.length ≤ 1048576) (ht : 0 ≤ t) (hT : t ≤ 1099511627776) (K : Nat) (hK : K = (X.length - 1) / 64) :
    ACalls Tryz.prog 83 [.pointer (some ⟨0, 0, none⟩), .string d] [some ⟨[.int .u32 p0, .int .u32 p1, .int .u32 p2, .int .u32 p3, .int .u32 p4, .int .u32 p5, .int .u32 p6, .int .u32 p7, .slice (some ⟨1, o, none⟩) n n, .int .u64 t], true, 1⟩, some ⟨L.map u8v, true, 1⟩] (.tuple #[]) [some ⟨[.int .u32 ((ab X t [p0, p1, p2, p3, p4, p5, p6, p7] K).getD 0 0), .int .u32 ((ab X t [p0, p1, p2, p3, p4, p5, p6, p7] K).getD 1 0), .int .u32 ((ab X t [p0, p1, p2, p3, p4, p5, p6, p7] K).getD 2 0), .int .u32 ((ab X t [p0, p1, p2, p3, p4, p5, p6, p7] K).getD 3 0), .int .u32 ((ab X t [p0, p1, p2, p3, p4, p5, p6, p7] K).getD 4 0), .int .u32 ((ab X t [p0, p1, p2, p3, p4, p5, p6, p7] K).getD 5 0), .int .u32 ((ab X t [p0, p1, p2, p3, p4, p5, p6, p7] K).getD 6 0), .int .u32 ((ab X t [p0, p1, p2, p3, p4, p5, p6, p7] K).getD 7 0), .slice (some ⟨2, 64 * K, none⟩) (X.length - 64 * K) (X.length - 64 * K), .int .u64 (t + 64 * K)], true, 1⟩, none, some ⟨X.map u8v, true, 1⟩] := by
  have hds : d.data.toList.length = d.size := Array.length_toList (xs := d.data)
  have hXl : X.length = n + d.size := by rw [hX, List.length_append, hds, List.length_take, List.length_drop]; omega
  have hq : List.take (n * 1) (List.drop o (L.map u8v)) ++ d.data.toList.map u8v = X.map u8v := by rw [hX, Nat.mul_one, List.map_append, List.map_take, List.map_drop]
  refine acalls_of_aw Tryz.func83 rfl rfl ?_
  repeat' first | refine st ?_ | refine stm ?_ | refine run_nil ?_ | refine Jz ?_ | refine Jw ?_ | refine aw_block ?_
  rw [hq]
  refine aw_loopg
    (S := fun x : Tg => [(0, .pointer (some ⟨0, 0, none⟩))])
    (B := fun x : Tg => [some ⟨[.int .u32 x.c0, .int .u32 x.c1, .int .u32 x.c2, .int .u32 x.c3, .int .u32 x.c4, .int .u32 x.c5, .int .u32 x.c6, .int .u32 x.c7, .slice (some ⟨2, x.o, none⟩) x.n x.n, .int .u64 x.t], true, 1⟩, none, some ⟨X.map u8v, true, 1⟩])
    (R := fun x : Tg => 0 ≤ x.k ∧ x.o = 64 * x.k.toNat ∧ x.o + x.n = X.length ∧ (0 < x.n ∨ X.length = 0) ∧ x.t = t + 64 * x.k ∧ [x.c0, x.c1, x.c2, x.c3, x.c4, x.c5, x.c6, x.c7] = ab X t [p0, p1, p2, p3, p4, p5, p6, p7] x.k.toNat)
    (μ := fun x : Tg => x.n) ⟨0, 0, n + d.size, t, p0, p1, p2, p3, p4, p5, p6, p7⟩ (fits [0, 1, 2]) ⟨by dsimp only; omega, by dsimp only; omega, by dsimp only; omega, by dsimp only; omega, by dsimp only; omega, rfl⟩ ?_
  rintro ⟨k, o1, n1, t1, v0, v1, v2, v3, v4, v5, v6, v7⟩ ⟨g1, g2, g3, g4, g5, hC⟩
  dsimp only at *
  obtain ⟨k, rfl⟩ : ∃ n : Nat, k = n := ⟨k.toNat, by omega⟩
  rw [Int.toNat_natCast] at g2 hC
  by_cases hn1 : 64 < n1
  · obtain ⟨W, hW⟩ : ∃ W, wd (fun j => (X.getD (o1 + j) 0).toNat) 64 = W := ⟨_, rfl⟩
    have HW := ac_words X 64 o1 64 (by omega) (by omega) W hW
    have hWl : W.length = 16 := by rw [← hW, wd_len]
    have hw : IntKind.u64.wrap (t1 + 64) = t1 + 64 := wrap_id (by simp [IntKind.min, IntKind.signed]; omega) (by simp [IntKind.max, IntKind.signed, IntKind.bits]; omega)
    obtain ⟨C', hC'⟩ : ∃ C', cmp [v0, v1, v2, v3, v4, v5, v6, v7] [W.getD 0 0, W.getD 1 0, W.getD 2 0, W.getD 3 0, W.getD 4 0, W.getD 5 0, W.getD 6 0, W.getD 7 0, W.getD 8 0, W.getD 9 0, W.getD 10 0, W.getD 11 0, W.getD 12 0, W.getD 13 0, W.getD 14 0, W.getD 15 0] (IntKind.u64.wrap (t1 + 64)) false = C' := ⟨_, rfl⟩
    have HC := aw_compress v0 v1 v2 v3 v4 v5 v6 v7 (W.getD 0 0) (W.getD 1 0) (W.getD 2 0) (W.getD 3 0) (W.getD 4 0) (W.getD 5 0) (W.getD 6 0) (W.getD 7 0) (W.getD 8 0) (W.getD 9 0) (W.getD 10 0) (W.getD 11 0) (W.getD 12 0) (W.getD 13 0) (W.getD 14 0) (W.getD 15 0) (IntKind.u64.wrap (t1 + 64)) false C' hC'
    have hCl : C'.length = 8 := by rw [← hC', cmp_len]; rfl
    repeat' first | refine st ?_ | refine sdR [2] HW ?_ | refine stm ?_ | refine run_nil ?_ | refine sd ?_ | refine sdl ?_ | refine sd_call (HC) ?_ | refine sdb ?_ | refine rund_nil ?_ | refine Jz ?_ | refine Jw ?_ | refine J0 (id := 3) [0,0,2,6,14,0,32,96,224,480,992,0,2048,6144,14336,32766,65535,131071,262143] 18 ?_ | refine aw_block ?_ | refine Js ?_ | refine Jy ?_
    refine Exists.intro ⟨k + 1, _, _, _, _, _, _, _, _, _, _, _⟩ ⟨fits [0, 1, 2], ⟨by dsimp only; omega, by dsimp only; omega, by dsimp only; omega, by dsimp only; omega, by dsimp only; exact hw.trans (by omega), ?_⟩, by dsimp only; omega⟩
    dsimp only
    rw [show ((k : Int) + 1).toNat = k + 1 by omega, ab, ← hC]
    refine (list8_eq hCl).trans ?_
    rw [← hC', list16_eq hWl, hw, ← hW, g2, g5, Int.mul_add, ← Int.add_assoc]
    rfl
  · obtain rfl : K = k := by omega
    repeat' first | refine st ?_ | refine run_nil ?_ | refine Jz ?_ | refine Jw ?_ | refine Jt ?_ | refine aw_exit ?_
    have e0 : n1 = X.length - 64 * K := by omega
    subst g2 g5 e0
    rw [← hC]
    exact pm_normal _ (renumA [0, 1, 2]) rfl
set_option maxHeartbeats 4000000 in
theorem ac_takeBn (p0 p1 p2 p3 p4 p5 p6 p7 t : Int) (q : Int) (d : ByteArray) (L : List UInt8) (o n : Nat) (hL : o + n ≤ L.length) (X : List UInt8) (hX : X = (L.drop o).take n ++ d.data.toList) (h2 : X.length ≤ 1048576) (ht : 0 ≤ t) (hT : t ≤ 1099511627776) (K : Nat) (hK : K = (X.length - 1) / 64) :
    ACalls Tryz.prog 83 [.pointer (some ⟨0, 0, none⟩), .string d] [some ⟨[.int .u32 p0, .int .u32 p1, .int .u32 p2, .int .u32 p3, .int .u32 p4, .int .u32 p5, .int .u32 p6, .int .u32 p7, .slice (some ⟨1, o, none⟩) n n, .int .u64 t, .int .i64 q], true, 1⟩, some ⟨L.map u8v, true, 1⟩] (.tuple #[]) [some ⟨[.int .u32 ((ab X t [p0, p1, p2, p3, p4, p5, p6, p7] K).getD 0 0), .int .u32 ((ab X t [p0, p1, p2, p3, p4, p5, p6, p7] K).getD 1 0), .int .u32 ((ab X t [p0, p1, p2, p3, p4, p5, p6, p7] K).getD 2 0), .int .u32 ((ab X t [p0, p1, p2, p3, p4, p5, p6, p7] K).getD 3 0), .int .u32 ((ab X t [p0, p1, p2, p3, p4, p5, p6, p7] K).getD 4 0), .int .u32 ((ab X t [p0, p1, p2, p3, p4, p5, p6, p7] K).getD 5 0), .int .u32 ((ab X t [p0, p1, p2, p3, p4, p5, p6, p7] K).getD 6 0), .int .u32 ((ab X t [p0, p1, p2, p3, p4, p5, p6, p7] K).getD 7 0), .slice (some ⟨2, 64 * K, none⟩) (X.length - 64 * K) (X.length - 64 * K), .int .u64 (t + 64 * K), .int .i64 q], true, 1⟩, none, some ⟨X.map u8v, true, 1⟩] := by
  have hds : d.data.toList.length = d.size := Array.length_toList (xs := d.data)
  have hXl : X.length = n + d.size := by rw [hX, List.length_append, hds, List.length_take, List.length_drop]; omega
  have hq : List.take (n * 1) (List.drop o (L.map u8v)) ++ d.data.toList.map u8v = X.map u8v := by rw [hX, Nat.mul_one, List.map_append, List.map_take, List.map_drop]
  refine acalls_of_aw Tryz.func83 rfl rfl ?_
  repeat' first | refine st ?_ | refine stm ?_ | refine run_nil ?_ | refine Jz ?_ | refine Jw ?_ | refine aw_block ?_
  rw [hq]
  refine aw_loopg
    (S := fun x : Tg => [(0, .pointer (some ⟨0, 0, none⟩))])
    (B := fun x : Tg => [some ⟨[.int .u32 x.c0, .int .u32 x.c1, .int .u32 x.c2, .int .u32 x.c3, .int .u32 x.c4, .int .u32 x.c5, .int .u32 x.c6, .int .u32 x.c7, .slice (some ⟨2, x.o, none⟩) x.n x.n, .int .u64 x.t, .int .i64 q], true, 1⟩, none, some ⟨X.map u8v, true, 1⟩])
    (R := fun x : Tg => 0 ≤ x.k ∧ x.o = 64 * x.k.toNat ∧ x.o + x.n = X.length ∧ (0 < x.n ∨ X.length = 0) ∧ x.t = t + 64 * x.k ∧ [x.c0, x.c1, x.c2, x.c3, x.c4, x.c5, x.c6, x.c7] = ab X t [p0, p1, p2, p3, p4, p5, p6, p7] x.k.toNat)
    (μ := fun x : Tg => x.n) ⟨0, 0, n + d.size, t, p0, p1, p2, p3, p4, p5, p6, p7⟩ (fits [0, 1, 2]) ⟨by dsimp only; omega, by dsimp only; omega, by dsimp only; omega, by dsimp only; omega, by dsimp only; omega, rfl⟩ ?_
  rintro ⟨k, o1, n1, t1, v0, v1, v2, v3, v4, v5, v6, v7⟩ ⟨g1, g2, g3, g4, g5, hC⟩
  dsimp only at *
  obtain ⟨k, rfl⟩ : ∃ n : Nat, k = n := ⟨k.toNat, by omega⟩
  rw [Int.toNat_natCast] at g2 hC
  by_cases hn1 : 64 < n1
  · obtain ⟨W, hW⟩ : ∃ W, wd (fun j => (X.getD (o1 + j) 0).toNat) 64 = W := ⟨_, rfl⟩
    have HW := ac_words X 64 o1 64 (by omega) (by omega) W hW
    have hWl : W.length = 16 := by rw [← hW, wd_len]
    have hw : IntKind.u64.wrap (t1 + 64) = t1 + 64 := wrap_id (by simp [IntKind.min, IntKind.signed]; omega) (by simp [IntKind.max, IntKind.signed, IntKind.bits]; omega)
    obtain ⟨C', hC'⟩ : ∃ C', cmp [v0, v1, v2, v3, v4, v5, v6, v7] [W.getD 0 0, W.getD 1 0, W.getD 2 0, W.getD 3 0, W.getD 4 0, W.getD 5 0, W.getD 6 0, W.getD 7 0, W.getD 8 0, W.getD 9 0, W.getD 10 0, W.getD 11 0, W.getD 12 0, W.getD 13 0, W.getD 14 0, W.getD 15 0] (IntKind.u64.wrap (t1 + 64)) false = C' := ⟨_, rfl⟩
    have HC := aw_compress v0 v1 v2 v3 v4 v5 v6 v7 (W.getD 0 0) (W.getD 1 0) (W.getD 2 0) (W.getD 3 0) (W.getD 4 0) (W.getD 5 0) (W.getD 6 0) (W.getD 7 0) (W.getD 8 0) (W.getD 9 0) (W.getD 10 0) (W.getD 11 0) (W.getD 12 0) (W.getD 13 0) (W.getD 14 0) (W.getD 15 0) (IntKind.u64.wrap (t1 + 64)) false C' hC'
    have hCl : C'.length = 8 := by rw [← hC', cmp_len]; rfl
    repeat' first | refine st ?_ | refine sdR [2] HW ?_ | refine stm ?_ | refine run_nil ?_ | refine sd ?_ | refine sdl ?_ | refine sd_call (HC) ?_ | refine sdb ?_ | refine rund_nil ?_ | refine Jz ?_ | refine Jw ?_ | refine J0 (id := 3) [0,0,2,6,14,0,32,96,224,480,992,0,2048,6144,14336,32766,65535,131071,262143] 18 ?_ | refine aw_block ?_ | refine Js ?_ | refine Jy ?_
    refine Exists.intro ⟨k + 1, _, _, _, _, _, _, _, _, _, _, _⟩ ⟨fits [0, 1, 2], ⟨by dsimp only; omega, by dsimp only; omega, by dsimp only; omega, by dsimp only; omega, by dsimp only; exact hw.trans (by omega), ?_⟩, by dsimp only; omega⟩
    dsimp only
    rw [show ((k : Int) + 1).toNat = k + 1 by omega, ab, ← hC]
    refine (list8_eq hCl).trans ?_
    rw [← hC', list16_eq hWl, hw, ← hW, g2, g5, Int.mul_add, ← Int.add_assoc]
    rfl
  · obtain rfl : K = k := by omega
    repeat' first | refine st ?_ | refine run_nil ?_ | refine Jz ?_ | refine Jw ?_ | refine Jt ?_ | refine aw_exit ?_
    have e0 : n1 = X.length - 64 * K := by omega
    subst g2 g5 e0
    rw [← hC]
    exact pm_normal _ (renumA [0, 1, 2]) rfl
end Go.Proofs.YtjofcjogbopkjaaGreat
namespace Go.Proofs.YtjofcjogbopkjaaGreat
open Go Av
set_option maxRecDepth 20000
def iv0 (n : Int) : Int := x32 1779033703 (IntKind.u32.wrap (16842784 + IntKind.u32.wrap (256 * n)))
def ivk (n : Int) : List Int := [iv0 n, 3144134277, 1013904242, 2773480762, 1359893119, 2600822924, 528734635, 1541459225]
/-- The digest of bytes, of which the first 64 are a key's if n is its length. -/
def dig (n : Int) (X : List UInt8) : ByteArray :=
  ⟨(outB (cmp (ab X 0 (ivk n) ((X.length - 1) / 64)) (wd (fun j => ((X.getD (64 * ((X.length - 1) / 64) + j) 0).toNat : Int)) (X.length - 64 * ((X.length - 1) / 64))) X.length true) 8).toArray⟩
theorem bs0 {d : ByteArray} : d = ⟨#[]⟩ ↔ d.size = 0 := by
  obtain ⟨l⟩ := d
  constructor
  · rintro h; rw [h]; rfl
  · intro h
    have : l = #[] := Array.eq_empty_of_size_eq_zero h
    rw [this]
set_option maxHeartbeats 1000000 in
theorem ac_start0 (d : ByteArray) (n : Int) (h : d.size = n) (h0 : n = 0) : ACalls Tryz.prog 82 [.string d] [] (.agg #[.int .u32 (iv0 n), .int .u32 3144134277, .int .u32 1013904242, .int .u32 2773480762, .int .u32 1359893119, .int .u32 2600822924, .int .u32 528734635, .int .u32 1541459225, .slice (some ⟨0, 0, none⟩) 0 0, .int .u64 0]) [some ⟨[], true, 1⟩] := by
  refine acalls_of_aw Tryz.func82 rfl rfl ?_
  refine aw_ghost 1 rfl ?_
  repeat' first | intro h1 | refine st ?_ | refine st_call (aw_init) ?_ | refine stm ?_ | refine run_nil ?_ | refine Jz ?_ | refine Jw ?_ | refine Ju ?_ ?_ | refine Jy ?_ | refine aw_ret ?_
  · exact absurd (bs0.2 (by omega)) h1
  · rw [h]
    refine pmw_ret _ (renumA [0]) ?_
    exact (Wk.aggL (by repeat (first | exact WkL.nil | (apply WkL.cons; (first | exact Wk.refl _ | exact Wk.nil)))))
def pad (d : List UInt8) : List UInt8 := d ++ List.replicate (64 - d.length) 0
theorem pad_len (d : List UInt8) (h : d.length ≤ 64) : (pad d).length = 64 := by simp [pad]; omega
set_option maxHeartbeats 1000000 in
theorem ac_startK (d : ByteArray) (n : Int) (h : d.size = n) (h0 : 0 < n ∧ n ≤ 32) (X : List UInt8) (hX : pad d.data.toList = X) : ACalls Tryz.prog 82 [.string d] [] (.agg #[.int .u32 (iv0 n), .int .u32 3144134277, .int .u32 1013904242, .int .u32 2773480762, .int .u32 1359893119, .int .u32 2600822924, .int .u32 528734635, .int .u32 1541459225, .slice (some ⟨0, 0, none⟩) 64 64, .int .u64 0]) [some ⟨X.map u8v, true, 1⟩] := by
  have hds : d.data.toList.length = d.size := Array.length_toList (xs := d.data)
  refine acalls_of_aw Tryz.func82 rfl rfl ?_
  repeat' first | intro h1 | refine st ?_ | refine st_call (aw_init) ?_ | refine stm ?_ | refine run_nil ?_ | refine Jz ?_ | refine Jw ?_ | refine Ju ?_ ?_ | refine Jy ?_ | refine aw_ret ?_
  · have hq : List.map u8v d.data.toList ++ List.replicate (64 - d.size) (.int .u8 0) = X.map u8v := by rw [← hX, pad, List.map_append, List.map_replicate, hds]; rfl
    have e64 : d.size + (64 - d.size) = 64 := by omega
    refine run_step (ok_append_zeros (k := 64 - d.size) (cs := X.map u8v) (olds := d.data.toList.map u8v) rfl rfl rfl rfl rfl rfl rfl (by omega) (by omega) (by simp) (take_full (by simp)) hq (by omega) (by (repeat constructor))) (Nat.le_of_ble_eq_true rfl) ?_
    rw [e64]
    repeat' first | refine st ?_ | refine stm ?_ | refine run_nil ?_ | refine Jz ?_ | refine Jw ?_ | refine aw_ret ?_
    rw [h]
    exact pm_ret _ (renumA [3]) rfl
  · exact absurd (bs0.1 (Decidable.not_not.1 h1)) (by omega)
set_option maxHeartbeats 4000000 in
theorem ac_Sum (d : ByteArray) (h : d.size ≤ 1048576) : ACalls Tryz.prog 62 [.string d] [] (.string (dig 0 d.data.toList)) [] := by
  have hds : d.data.toList.length = d.size := Array.length_toList (xs := d.data)
  have hpl : (0 : Nat) = 0 := rfl
  obtain ⟨X, hX⟩ : ∃ X, d.data.toList = X := ⟨_, rfl⟩
  obtain ⟨K, hK⟩ : ∃ K, (X.length - 1) / 64 = K := ⟨_, rfl⟩
  obtain ⟨A, hA⟩ : ∃ A, ab X 0 (ivk 0) K = A := ⟨_, rfl⟩
  obtain ⟨C, hC⟩ : ∃ C, cmp A (wd (fun j => ((X.getD (64 * K + j) 0).toNat : Int)) (X.length - 64 * K)) X.length true = C := ⟨_, rfl⟩
  have hXl : X.length = 0 + d.size := by rw [← hX]; simp [hds, hpl]
  have hAl : A.length = 8 := by rw [← hA, ab_len]; rfl
  have hdg : dig 0 X = ⟨(outB C 8).toArray⟩ := by simp only [dig, hK, hA, hC]
  have hS := ac_start0 ⟨#[]⟩ 0 rfl rfl
  have hT := ac_takeB (iv0 0) 3144134277 1013904242 2773480762 1359893119 2600822924 528734635 1541459225 0 d [] 0 0 (by simp [hpl]) X (by rw [← hX]; first | (rw [List.drop_zero, List.take_of_length_le (by rw [hpl]; exact Nat.le_refl _)]; done) | simp [hpl]) (by omega) (by omega) (by omega) K hK.symm
  rw [show [iv0 0, 3144134277, 1013904242, 2773480762, 1359893119, 2600822924, 528734635, 1541459225] = ivk 0 from rfl, hA] at hT
  have hF := ac_sum1 (A.getD 0 0) (A.getD 1 0) (A.getD 2 0) (A.getD 3 0) (A.getD 4 0) (A.getD 5 0) (A.getD 6 0) (A.getD 7 0) (0 + 64 * (K : Int)) X (X.length - 64 * K) (64 * K) (by omega) (by omega) (by omega) (by omega) C (by rw [list8_eq hAl, ← hC]; congr 1; omega)
  try simp only [hX]
  rw [hdg]
  refine acalls_pure Tryz.func62 rfl rfl rfl ?_
  repeat' first | refine st ?_ | refine stM [] hS ?_ | refine stM [1, 0] hT ?_ | refine stR [2] hF ?_ | refine stm ?_ | refine run_nil ?_ | refine Jz ?_ | refine Jw ?_ | refine aw_ret ?_ | refine pp_ret ?_
  rfl
/-- What is digested with a key. -/
def kx (k d : List UInt8) : List UInt8 := if k = [] then d else pad k ++ d
theorem kx_len (k d : List UInt8) : (kx k d).length ≤ k.length + d.length + 64 := by
  unfold kx
  split
  · omega
  · simp [pad]; omega
end Go.Proofs.YtjofcjogbopkjaaGreat
namespace Go.Proofs.YtjofcjogbopkjaaGreat
open Go Av
set_option maxRecDepth 20000
theorem wd_congr {g h : Nat → Int} : ∀ n, (∀ j, j < n → g j = h j) → wd g n = wd h n
  | 0, _ => rfl
  | n + 1, hh => by
    have ih := wd_congr n fun j hj => hh j (by omega)
    simp only [wd, ih, hh n (by omega)]
theorem extract_byte (s : ByteArray) (a b j : Nat) (h : j < b - a) : byteAt (s.extract a b) j = s.data.toList.getD (a + j) 0 := by
  unfold byteAt
  rw [List.getD_eq_getElem?_getD, List.getD_eq_getElem?_getD]
  congr 1
  rw [Array.getElem?_toList, Array.getElem?_toList, ByteArray.data_extract, Array.getElem?_extract]
  split
  · rfl
  · rename_i h'
    rw [Array.getElem?_eq_none]
    omega
theorem riv : ∀ k : Nat, k < 33 → x32 (x32 1779033703 16842784) (IntKind.u32.wrap ((k : Int) * 2 ^ (min (Int.toNat 8) IntKind.u32.bits))) = iv0 k := by decide +kernel
theorem rout (C : List Int) : [.int .u8 (IntKind.u8.wrap (C.getD 0 0 / 2 ^ (min (Int.toNat 0) IntKind.u32.bits))), .int .u8 (IntKind.u8.wrap (C.getD 0 0 / 2 ^ (min (Int.toNat 8) IntKind.u32.bits))), .int .u8 (IntKind.u8.wrap (C.getD 0 0 / 2 ^ (min (Int.toNat 16) IntKind.u32.bits))), .int .u8 (IntKind.u8.wrap (C.getD 0 0 / 2 ^ (min (Int.toNat 24) IntKind.u32.bits))), .int .u8 (IntKind.u8.wrap (C.getD 1 0 / 2 ^ (min (Int.toNat 0) IntKind.u32.bits))), .int .u8 (IntKind.u8.wrap (C.getD 1 0 / 2 ^ (min (Int.toNat 8) IntKind.u32.bits))), .int .u8 (IntKind.u8.wrap (C.getD 1 0 / 2 ^ (min (Int.toNat 16) IntKind.u32.bits))), .int .u8 (IntKind.u8.wrap (C.getD 1 0 / 2 ^ (min (Int.toNat 24) IntKind.u32.bits))), .int .u8 (IntKind.u8.wrap (C.getD 2 0 / 2 ^ (min (Int.toNat 0) IntKind.u32.bits))), .int .u8 (IntKind.u8.wrap (C.getD 2 0 / 2 ^ (min (Int.toNat 8) IntKind.u32.bits))), .int .u8 (IntKind.u8.wrap (C.getD 2 0 / 2 ^ (min (Int.toNat 16) IntKind.u32.bits))), .int .u8 (IntKind.u8.wrap (C.getD 2 0 / 2 ^ (min (Int.toNat 24) IntKind.u32.bits))), .int .u8 (IntKind.u8.wrap (C.getD 3 0 / 2 ^ (min (Int.toNat 0) IntKind.u32.bits))), .int .u8 (IntKind.u8.wrap (C.getD 3 0 / 2 ^ (min (Int.toNat 8) IntKind.u32.bits))), .int .u8 (IntKind.u8.wrap (C.getD 3 0 / 2 ^ (min (Int.toNat 16) IntKind.u32.bits))), .int .u8 (IntKind.u8.wrap (C.getD 3 0 / 2 ^ (min (Int.toNat 24) IntKind.u32.bits))), .int .u8 (IntKind.u8.wrap (C.getD 4 0 / 2 ^ (min (Int.toNat 0) IntKind.u32.bits))), .int .u8 (IntKind.u8.wrap (C.getD 4 0 / 2 ^ (min (Int.toNat 8) IntKind.u32.bits))), .int .u8 (IntKind.u8.wrap (C.getD 4 0 / 2 ^ (min (Int.toNat 16) IntKind.u32.bits))), .int .u8 (IntKind.u8.wrap (C.getD 4 0 / 2 ^ (min (Int.toNat 24) IntKind.u32.bits))), .int .u8 (IntKind.u8.wrap (C.getD 5 0 / 2 ^ (min (Int.toNat 0) IntKind.u32.bits))), .int .u8 (IntKind.u8.wrap (C.getD 5 0 / 2 ^ (min (Int.toNat 8) IntKind.u32.bits))), .int .u8 (IntKind.u8.wrap (C.getD 5 0 / 2 ^ (min (Int.toNat 16) IntKind.u32.bits))), .int .u8 (IntKind.u8.wrap (C.getD 5 0 / 2 ^ (min (Int.toNat 24) IntKind.u32.bits))), .int .u8 (IntKind.u8.wrap (C.getD 6 0 / 2 ^ (min (Int.toNat 0) IntKind.u32.bits))), .int .u8 (IntKind.u8.wrap (C.getD 6 0 / 2 ^ (min (Int.toNat 8) IntKind.u32.bits))), .int .u8 (IntKind.u8.wrap (C.getD 6 0 / 2 ^ (min (Int.toNat 16) IntKind.u32.bits))), .int .u8 (IntKind.u8.wrap (C.getD 6 0 / 2 ^ (min (Int.toNat 24) IntKind.u32.bits))), .int .u8 (IntKind.u8.wrap (C.getD 7 0 / 2 ^ (min (Int.toNat 0) IntKind.u32.bits))), .int .u8 (IntKind.u8.wrap (C.getD 7 0 / 2 ^ (min (Int.toNat 8) IntKind.u32.bits))), .int .u8 (IntKind.u8.wrap (C.getD 7 0 / 2 ^ (min (Int.toNat 16) IntKind.u32.bits))), .int .u8 (IntKind.u8.wrap (C.getD 7 0 / 2 ^ (min (Int.toNat 24) IntKind.u32.bits)))] = (outB C 8).map u8v := by
  have e0 : ∀ x : Int, x / 2 ^ (min (Int.toNat 0) IntKind.u32.bits) = x := fun x => by simp
  simp only [outB, List.nil_append, List.cons_append, List.append_nil, List.map_cons, List.map_nil, u8v_b8, e0]
structure Rgs where
  a : Int
  c0 : Int
  c1 : Int
  c2 : Int
  c3 : Int
  c4 : Int
  c5 : Int
  c6 : Int
  c7 : Int
set_option maxHeartbeats 8000000 in
theorem ac_rsum (key : Int) (hk : 0 ≤ key ∧ key ≤ 32) (d : ByteArray) (h : d.size ≤ 1048576) : ACalls Tryz.prog 91 [.int .i64 key, .string d] [] (.string (dig key d.data.toList)) [] := by
  obtain ⟨X, hX⟩ : ∃ X, d.data.toList = X := ⟨_, rfl⟩
  have hXl : X.length = d.size := by rw [← hX]; exact Array.length_toList (xs := d.data)
  obtain ⟨K, hK⟩ : ∃ K, (X.length - 1) / 64 = K := ⟨_, rfl⟩
  obtain ⟨A, hA⟩ : ∃ A, ab X 0 (ivk key) K = A := ⟨_, rfl⟩
  obtain ⟨C, hC⟩ : ∃ C, cmp A (wd (fun j => ((X.getD (64 * K + j) 0).toNat : Int)) (X.length - 64 * K)) X.length true = C := ⟨_, rfl⟩
  have hdg : dig key X = ⟨(outB C 8).toArray⟩ := by simp only [dig, hK, hA, hC]
  have hriv := riv key.toNat (by omega)
  rw [show ((key.toNat : Nat) : Int) = key by omega] at hriv
  rw [hX, hdg]
  refine acalls_pure Tryz.func91 rfl rfl rfl ?_
  repeat' first | refine st ?_ | refine st_call (aw_rinit) ?_ | refine stm ?_ | refine run_nil ?_ | refine Jz ?_ | refine Jw ?_ | refine aw_block ?_
  refine aw_loopg
    (S := fun x : Rgs => [(1, .string d), (5, .pointer (some ⟨0, 0, none⟩)), (6, .int .i64 x.a)])
    (B := fun x : Rgs => [some ⟨[.int .u32 x.c0, .int .u32 x.c1, .int .u32 x.c2, .int .u32 x.c3, .int .u32 x.c4, .int .u32 x.c5, .int .u32 x.c6, .int .u32 x.c7], true, 1⟩])
    (R := fun x : Rgs => 0 ≤ x.a ∧ x.a % 64 = 0 ∧ (x.a < X.length ∨ X.length = 0 ∧ x.a = 0) ∧ [x.c0, x.c1, x.c2, x.c3, x.c4, x.c5, x.c6, x.c7] = ab X 0 (ivk key) (x.a / 64).toNat)
    (μ := fun x : Rgs => (X.length - x.a).toNat) ⟨0, iv0 key, 3144134277, 1013904242, 2773480762, 1359893119, 2600822924, 528734635, 1541459225⟩ (fits [0] (h4 := MemR.blk rfl (WkL.ofEq (by rw [show bitv .xor .u32 (bitv .xor .u32 (ivs.getD 0 0) 16842784) (IntKind.u32.wrap (key * 2 ^ (min (Int.toNat 8) IntKind.u32.bits))) = iv0 key from hriv]; rfl)) .nil)) ⟨by dsimp only; omega, by dsimp only; omega, by dsimp only; omega, rfl⟩ ?_
  rintro ⟨a, v0, v1, v2, v3, v4, v5, v6, v7⟩ ⟨g1, g2, g3, hCC⟩
  dsimp only at *
  obtain ⟨k, hk'⟩ : ∃ k : Nat, (a / 64).toNat = k := ⟨_, rfl⟩
  rw [hk'] at hCC
  by_cases hn1 : 64 < (d.size : Int) - a
  · obtain ⟨W, hW⟩ : ∃ W, wd (fun j => ((X.getD (64 * k + j) 0).toNat : Int)) 64 = W := ⟨_, rfl⟩
    have hWl : W.length = 16 := by rw [← hW, wd_len]
    have HB := ac_block (d.extract a.toNat (a + 64).toNat) 64 (by rw [ByteArray.size_extract]; omega) (Nat.le_refl _) W (by
      rw [← hW]
      exact wd_congr 64 fun j hj => by rw [extract_byte _ _ _ _ (by omega), hX, show a.toNat = 64 * k by omega])
    obtain ⟨C', hC'⟩ : ∃ C', cmp [v0, v1, v2, v3, v4, v5, v6, v7] [W.getD 0 0, W.getD 1 0, W.getD 2 0, W.getD 3 0, W.getD 4 0, W.getD 5 0, W.getD 6 0, W.getD 7 0, W.getD 8 0, W.getD 9 0, W.getD 10 0, W.getD 11 0, W.getD 12 0, W.getD 13 0, W.getD 14 0, W.getD 15 0] (a + 64) false = C' := ⟨_, rfl⟩
    have HC := aw_rcompress v0 v1 v2 v3 v4 v5 v6 v7 (W.getD 0 0) (W.getD 1 0) (W.getD 2 0) (W.getD 3 0) (W.getD 4 0) (W.getD 5 0) (W.getD 6 0) (W.getD 7 0) (W.getD 8 0) (W.getD 9 0) (W.getD 10 0) (W.getD 11 0) (W.getD 12 0) (W.getD 13 0) (W.getD 14 0) (W.getD 15 0) (a + 64) false C' hC'
    have hCl : C'.length = 8 := by rw [← hC', cmp_len]; rfl
    repeat' first | refine st ?_ | refine run_nil ?_ | refine sd ?_ | refine sdl ?_ | refine sd_call (HB) ?_ | refine sd_call (HC) ?_ | refine sdb ?_ | refine rund_nil ?_ | refine Jz ?_ | refine Jw ?_ | refine J0 (id := 5) [0,0,0,0,8,30,62,0,128,384,1023,2047] 11 ?_ | refine aw_block ?_ | refine Js ?_ | refine Jy ?_
    refine Exists.intro ⟨_, _, _, _, _, _, _, _, _⟩ ⟨fits [0], ⟨by dsimp only; omega, by dsimp only; omega, by dsimp only; omega, ?_⟩, by dsimp only; omega⟩
    dsimp only
    rw [show ((a + 64) / 64).toNat = k + 1 by omega, ab, ← hCC]
    refine (list8_eq hCl).trans ?_
    rw [← hC', list16_eq hWl, ← hW, show a + 64 = 0 + 64 * ((k : Int) + 1) by omega]
  · obtain rfl : K = k := by omega
    obtain ⟨W, hW⟩ : ∃ W, wd (fun j => ((X.getD (64 * K + j) 0).toNat : Int)) (X.length - 64 * K) = W := ⟨_, rfl⟩
    have hWl : W.length = 16 := by rw [← hW, wd_len]
    have HB := ac_block (d.extract a.toNat d.size) (X.length - 64 * K) (by rw [ByteArray.size_extract]; omega) (by omega) W (by
      rw [← hW]
      exact wd_congr _ fun j hj => by rw [extract_byte _ _ _ _ (by omega), hX, show a.toNat = 64 * K by omega])
    rw [← hA, ← hCC, hW, ← list16_eq hWl] at hC
    have HC := aw_rcompress v0 v1 v2 v3 v4 v5 v6 v7 (W.getD 0 0) (W.getD 1 0) (W.getD 2 0) (W.getD 3 0) (W.getD 4 0) (W.getD 5 0) (W.getD 6 0) (W.getD 7 0) (W.getD 8 0) (W.getD 9 0) (W.getD 10 0) (W.getD 11 0) (W.getD 12 0) (W.getD 13 0) (W.getD 14 0) (W.getD 15 0) (d.size : Int) true C (by rw [← hXl]; exact hC)
    repeat' first | refine st (h := ok_bytes_str (l := outB C 8) rfl rfl (Nat.le_of_ble_eq_true rfl) (rout C)) ?_ | refine st ?_ | refine aw_loop_in ?_ | refine awl_round ?_ | refine stm ?_ | refine run_nil ?_ | refine sd ?_ | refine sdl ?_ | refine sd_call (HB) ?_ | refine sd_call (HC) ?_ | refine sdb ?_ | refine rund_nil ?_ | refine Jz ?_ | refine Jw ?_ | refine J0 (id := 7) [0,0,0,6,14,0,32,96,255,511] 9 ?_ | refine aw_block ?_ | refine Jq ?_ | refine Jr ?_ | refine Jt ?_ | refine Jy ?_ | refine aw_exit ?_ | refine aw_ret ?_ | refine pp_ret ?_
    all_goals rfl
end Go.Proofs.YtjofcjogbopkjaaGreat
namespace Go.Proofs.YtjofcjogbopkjaaGreat
open Go Av
set_option maxRecDepth 20000
theorem app_list (l : List UInt8) (d : ByteArray) : ((⟨l.toArray⟩ : ByteArray) ++ d).data.toList = l ++ d.data.toList := by
  rw [ByteArray.data_append, Array.toList_append]
theorem app_size (l : List UInt8) (d : ByteArray) : ((⟨l.toArray⟩ : ByteArray) ++ d).size = l.length + d.size := by
  rw [ByteArray.size_append]; rfl
theorem ac_rSum (d : ByteArray) (h : d.size ≤ 1048576) : ACalls Tryz.prog 69 [.string d] [] (.string (dig 0 d.data.toList)) [] := by
  have HR := ac_rsum 0 (by omega) d h
  refine acalls_pure Tryz.func69 rfl rfl rfl ?_
  repeat' first | refine st ?_ | refine st_call (HR) ?_ | refine run_nil ?_ | refine Jz ?_ | refine Jw ?_ | refine aw_ret ?_ | refine pp_ret ?_
  rfl
end Go.Proofs.YtjofcjogbopkjaaGreat
