/- Digest: a block's words; Digest: the state's digest; Digest: a state takes bytes in; Digest: a state begins; whole digests. -/
import Derived.Test.YtdbcbclapipgdaaGreatDoorVO
import Derived.Test.YtdbcbclapipgdaaGreatDoorJ
import Derived.Test.YtdbcbclapipgdaaGreatDoorC2
set_option linter.unusedVariables false
set_option linter.unusedSimpArgs false
namespace Go.Proofs.YtdbcbclapipgdaaGreatDoor
open Go Av
set_option maxRecDepth 20000
def orb (w k : Int) (x : Int) : Int := bitv .or .u32 w (IntKind.u32.wrap (IntKind.u32.wrap x * 2 ^ (min (8 * (k % 4)).toNat IntKind.u32.bits)))
def wd (g : Nat → Int) : Nat → List Int
  | 0 => List.replicate 16 0
  | i + 1 => (wd g i).set (i / 4) (orb ((wd g i).getD (i / 4) 0) i (g i))
theorem wd_len (g n) : (wd g n).length = 16 := by induction n with
  | zero => rfl
  | succ i ih => simp [wd, ih]
structure WgQ where
  r : Int
  V : List Int
set_option maxHeartbeats 4000000 in
theorem ac_words (L : List UInt8) (n o c : Nat) (hL : o + n ≤ L.length) (hn : n ≤ 64) (C : List Int) (hC : wd (fun j => (L.getD (o + j) 0).toNat) n = C) : ACalls Tryz.prog 188 [.slice (some ⟨0, o, none⟩) n c] [some ⟨L.map u8v, false, 1⟩] (.agg #[.int .u32 (C.getD 0 0), .int .u32 (C.getD 1 0), .int .u32 (C.getD 2 0), .int .u32 (C.getD 3 0), .int .u32 (C.getD 4 0), .int .u32 (C.getD 5 0), .int .u32 (C.getD 6 0), .int .u32 (C.getD 7 0), .int .u32 (C.getD 8 0), .int .u32 (C.getD 9 0), .int .u32 (C.getD 10 0), .int .u32 (C.getD 11 0), .int .u32 (C.getD 12 0), .int .u32 (C.getD 13 0), .int .u32 (C.getD 14 0), .int .u32 (C.getD 15 0)]) [none] := by
  refine acalls_law Tryz.func188 rfl rfl rfl ?_
  repeat' first | intro h1 | refine st ?_ | refine stm ?_ | refine Ja ?_ | refine Jb ?_ | refine Jc ?_ | refine Jd ?_ | refine Je ?_ | refine Jf ?_ | refine Jg ?_ | refine Jh ?_ ?_ | refine Ji ?_ ?_ | refine Jj ?_ ?_ | refine run_nil ?_ | refine sd ?_ | refine sdl ?_ | refine sdm (n := 1) ?_ | refine sdm ?_ | refine sdb ?_ | refine Jk ?_ | refine Jl ?_ | refine Jm ?_ | refine Jn ?_ ?_ | refine Jo ?_ ?_ | refine Jp ?_ ?_ | refine rund_nil ?_ | refine Jz ?_ | refine Jw ?_ | refine J0 (id := 5) [0,1,3,7,0,16,0,64,192,496,1023,2047,4095] 12 ?_ | refine aw_block ?_ | refine Jq ?_ | refine Jr ?_ | refine Js ?_ | refine Jt ?_ | refine Ju ?_ ?_ | refine Jv ?_ ?_ | refine Jy ?_ | refine aw_exit ?_ | refine aw_ret ?_ | refine pp_ret ?_ | refine pp_normal ?_

  refine aw_loopg
    (S := fun x : WgQ => [(2, .pointer (some ⟨1, 0, none⟩)), (3, .pointer (some ⟨2, 0, none⟩)), (6, .slice (some ⟨0, o, none⟩) n c), (7, .int .i64 n), (8, .int .i64 x.r)])
    (B := fun x : WgQ => [some ⟨L.map u8v, false, 1⟩, some ⟨[.int .u32 0, .int .u32 0, .int .u32 0, .int .u32 0, .int .u32 0, .int .u32 0, .int .u32 0, .int .u32 0, .int .u32 0, .int .u32 0, .int .u32 0, .int .u32 0, .int .u32 0, .int .u32 0, .int .u32 0, .int .u32 0], true, 1⟩, some ⟨x.V.map (Value.int .u32), true, 1⟩])
    (R := fun x : WgQ => 0 ≤ x.r ∧ x.r ≤ n ∧ x.V = wd (fun j => (L.getD (o + j) 0).toNat) x.r.toNat)
    (μ := fun x : WgQ => (n - x.r).toNat) ⟨0, List.replicate 16 0⟩ (fits [0, 1, 2]) ⟨by dsimp only; omega, by dsimp only; omega, rfl⟩ ?_
  rintro ⟨r, V⟩ ⟨h1, h2, hV⟩
  dsimp only at *
  obtain ⟨r, rfl⟩ : ∃ n : Nat, r = n := ⟨r.toNat, by omega⟩
  rw [Int.toNat_natCast] at hV
  have hVl : V.length = 16 := by rw [hV, wd_len]
  have hq : (r : Int).tdiv 4 = (r / 4 : Nat) := Int.ofNat_tdiv r 4
  have hq2 : (r : Int).tmod 4 = (r : Int) % 4 := Int.tmod_eq_emod_of_nonneg (by omega)
  by_cases hr : (r : Int) < n
  · skip
    repeat' first | intro h1 | refine st ?_ | refine stm ?_ | refine Ja ?_ | refine Jb ?_ | refine Jc ?_ | refine Jd ?_ | refine Je ?_ | refine Jf ?_ | refine Jg ?_ | refine Jh ?_ ?_ | refine Ji ?_ ?_ | refine Jj ?_ ?_ | refine run_nil ?_ | refine sd ?_ | refine sdl ?_ | refine sdm (n := 1) ?_ | refine sdm ?_ | refine sdb ?_ | refine Jk ?_ | refine Jl ?_ | refine Jm ?_ | refine Jn ?_ ?_ | refine Jo ?_ ?_ | refine Jp ?_ ?_ | refine rund_nil ?_ | refine Jz ?_ | refine Jw ?_ | refine J0 (id := 5) [0,1,3,7,0,16,0,64,192,496,1023,2047,4095] 12 ?_ | refine aw_block ?_ | refine Jq ?_ | refine Jr ?_ | refine Js ?_ | refine Jt ?_ | refine Ju ?_ ?_ | refine Jv ?_ ?_ | refine Jy ?_ | refine aw_exit ?_ | refine aw_ret ?_ | refine pp_ret ?_ | refine pp_normal ?_

    exact then_normal ⟨⟨_, _⟩, fits [0, 1, 2], ⟨by dsimp only; omega, by dsimp only; omega, by
      dsimp only
      rw [show ((r : Int) + 1).toNat = r + 1 by omega, wd, ← hV]
      first | rfl | (rw [show ((r : Int) / 4).toNat = r / 4 by omega]; rfl)⟩, by dsimp only; omega⟩
  · obtain rfl : r = n := by omega
    obtain ⟨a0, a1, a2, a3, a4, a5, a6, a7, b0, b1, b2, b3, b4, b5, b6, b7, rfl⟩ := list16 hVl
    repeat' first | intro h1 | refine st ?_ | refine stm ?_ | refine Ja ?_ | refine Jb ?_ | refine Jc ?_ | refine Jd ?_ | refine Je ?_ | refine Jf ?_ | refine Jg ?_ | refine Jh ?_ ?_ | refine Ji ?_ ?_ | refine Jj ?_ ?_ | refine run_nil ?_ | refine sd ?_ | refine sdl ?_ | refine sdm (n := 1) ?_ | refine sdm ?_ | refine sdb ?_ | refine Jk ?_ | refine Jl ?_ | refine Jm ?_ | refine Jn ?_ ?_ | refine Jo ?_ ?_ | refine Jp ?_ ?_ | refine rund_nil ?_ | refine Jz ?_ | refine Jw ?_ | refine J0 (id := 5) [0,1,3,7,0,16,0,64,192,496,1023,2047,4095] 12 ?_ | refine aw_block ?_ | refine Jq ?_ | refine Jr ?_ | refine Js ?_ | refine Jt ?_ | refine Ju ?_ ?_ | refine Jv ?_ ?_ | refine Jy ?_ | refine aw_exit ?_ | refine aw_ret ?_ | refine pp_ret ?_ | refine pp_normal ?_

    obtain rfl := hV.trans hC
    rfl
def b8Q (x : Int) : UInt8 := UInt8.ofNat (IntKind.u8.wrap x).toNat
theorem u8v_b8Q (x : Int) : u8v (b8Q x) = .int .u8 (IntKind.u8.wrap x) := by
  have h := wrap8 x
  simp only [u8v, b8Q]
  congr 1
  have : (UInt8.ofNat (IntKind.u8.wrap x).toNat).toNat = (IntKind.u8.wrap x).toNat := by
    rw [UInt8.toNat_ofNat']
    omega
  rw [this]
  omega
def outB (C : List Int) : Nat → List UInt8
  | 0 => []
  | i + 1 => outB C i ++ [b8Q (C.getD i 0), b8Q (C.getD i 0 / 2 ^ (min (Int.toNat 8) IntKind.u32.bits)), b8Q (C.getD i 0 / 2 ^ (min (Int.toNat 16) IntKind.u32.bits)), b8Q (C.getD i 0 / 2 ^ (min (Int.toNat 24) IntKind.u32.bits))]
theorem list16_eq {W : List Int} (h : W.length = 16) : [(W.getD 0 0), (W.getD 1 0), (W.getD 2 0), (W.getD 3 0), (W.getD 4 0), (W.getD 5 0), (W.getD 6 0), (W.getD 7 0), (W.getD 8 0), (W.getD 9 0), (W.getD 10 0), (W.getD 11 0), (W.getD 12 0), (W.getD 13 0), (W.getD 14 0), (W.getD 15 0)] = W := by
  obtain ⟨a0, a1, a2, a3, a4, a5, a6, a7, b0, b1, b2, b3, b4, b5, b6, b7, rfl⟩ := list16 h
  rfl
set_option maxHeartbeats 4000000 in
theorem ac_sum1 (p0 p1 p2 p3 p4 p5 p6 p7 t : Int) (L : List UInt8) (n o : Nat) (ht : 0 ≤ t) (hn : n ≤ 64) (hL : o + n ≤ L.length) (hT : t + n ≤ 9223372036854775807) (C : List Int) (hC : cmp [p0, p1, p2, p3, p4, p5, p6, p7] (wd (fun j => (L.getD (o + j) 0).toNat) n) (t + n) true = C) :
    ACalls Tryz.prog 156 [.agg #[.int .u32 p0, .int .u32 p1, .int .u32 p2, .int .u32 p3, .int .u32 p4, .int .u32 p5, .int .u32 p6, .int .u32 p7, .slice (some ⟨0, o, none⟩) n n, .int .u64 t]] [some ⟨L.map u8v, false, 1⟩] (.string ⟨(outB C 8).toArray⟩) [none] := by
  obtain ⟨W, hW⟩ : ∃ W, wd (fun j => (L.getD (o + j) 0).toNat) n = W := ⟨_, rfl⟩
  have HW := ac_words L n o n hL hn W hW
  have hWl : W.length = 16 := by rw [← hW, wd_len]
  rw [hW, ← list16_eq hWl] at hC
  have hw : IntKind.u64.wrap (t + n) = t + n := wrap_id (by simp [IntKind.min, IntKind.signed]; omega) (by simp [IntKind.max, IntKind.signed, IntKind.bits]; omega)
  have HC := aw_compress p0 p1 p2 p3 p4 p5 p6 p7 (W.getD 0 0) (W.getD 1 0) (W.getD 2 0) (W.getD 3 0) (W.getD 4 0) (W.getD 5 0) (W.getD 6 0) (W.getD 7 0) (W.getD 8 0) (W.getD 9 0) (W.getD 10 0) (W.getD 11 0) (W.getD 12 0) (W.getD 13 0) (W.getD 14 0) (W.getD 15 0) (IntKind.u64.wrap (t + n)) true C (by rw [hw]; exact hC)
  refine acalls_law Tryz.func156 rfl rfl rfl ?_
  repeat' first | refine st (h := ok_bytes_str (l := outB C 8) rfl rfl (Nat.le_of_ble_eq_true rfl) (by simp only [outB, List.nil_append, List.cons_append, List.append_nil, List.map_cons, List.map_nil, u8v_b8Q]; rfl)) ?_ | refine st ?_ | refine sdR [0] HW ?_ | refine aw_loop_in ?_ | refine awl_round ?_ | refine stm ?_ | refine run_nil ?_ | refine sd ?_ | refine sdl ?_ | refine sd_call (HC) ?_ | refine rund_nil ?_ | refine Jz ?_ | refine Jw ?_ | refine J0 (id := 2) [0,1,0,4,12,0,32,0,128,384,896,2016,4095,0] 14 ?_ | refine aw_block ?_ | refine Jq ?_ | refine Jr ?_ | refine Jy ?_ | refine aw_exit ?_ | refine aw_ret ?_ | refine pp_ret ?_
  all_goals rfl
/-- The chain behind k blocks. -/
def ab (X : List UInt8) (t : Int) (C : List Int) : Nat → List Int
  | 0 => C
  | k + 1 => cmp (ab X t C k) (wd (fun j => (X.getD (64 * k + j) 0).toNat) 64) (t + 64 * (k + 1)) false
theorem cmp_len (H M t l) : (cmp H M t l).length = H.length := by simp [cmp, fold8_len]
theorem ab_len (X t C k) : (ab X t C k).length = C.length := by induction k with
  | zero => rfl
  | succ k ih => simp [ab, cmp_len, ih]
theorem list8_eq {C : List Int} (h : C.length = 8) : [C.getD 0 0, C.getD 1 0, C.getD 2 0, C.getD 3 0, C.getD 4 0, C.getD 5 0, C.getD 6 0, C.getD 7 0] = C := by
  obtain ⟨a0, a1, a2, a3, a4, a5, a6, a7, rfl⟩ := list8 h
  rfl
structure TgQ where
  k : Int
  o : Nat
  n : Nat
  t : Int
  c0 : Int
  c1 : Int
  c2 : Int
  c3 : Int
  c4 : Int
  c5 : Int
  c6 : Int
  c7 : Int
set_option maxHeartbeats 4000000 in
theorem ac_takeB (p0 p1 p2 p3 p4 p5 p6 p7 t : Int) (d : ByteArray) (L : List UInt8) (o n : Nat) (hL : o + n ≤ L.length) (X : List UInt8) (hX : X = (L.drop o).take n ++ d.data.toList) (h2 : X.length ≤ 1048576) (ht : 0 ≤ t) (hT : t ≤ 1099511627776) (K : Nat) (hK : K = (X.length - 1) / 64) :
    ACalls Tryz.prog 155 [.pointer (some ⟨0, 0, none⟩), .string d] [some ⟨[.int .u32 p0, .int .u32 p1, .int .u32 p2, .int .u32 p3, .int .u32 p4, .int .u32 p5, .int .u32 p6, .int .u32 p7, .slice (some ⟨1, o, none⟩) n n, .int .u64 t], true, 1⟩, some ⟨L.map u8v, true, 1⟩] (.tuple #[]) [some ⟨[.int .u32 ((ab X t [p0, p1, p2, p3, p4, p5, p6, p7] K).getD 0 0), .int .u32 ((ab X t [p0, p1, p2, p3, p4, p5, p6, p7] K).getD 1 0), .int .u32 ((ab X t [p0, p1, p2, p3, p4, p5, p6, p7] K).getD 2 0), .int .u32 ((ab X t [p0, p1, p2, p3, p4, p5, p6, p7] K).getD 3 0), .int .u32 ((ab X t [p0, p1, p2, p3, p4, p5, p6, p7] K).getD 4 0), .int .u32 ((ab X t [p0, p1, p2, p3, p4, p5, p6, p7] K).getD 5 0), .int .u32 ((ab X t [p0, p1, p2, p3, p4, p5, p6, p7] K).getD 6 0), .int .u32 ((ab X t [p0, p1, p2, p3, p4, p5, p6, p7] K).getD 7 0), .slice (some ⟨2, 64 * K, none⟩) (X.length - 64 * K) (X.length - 64 * K), .int .u64 (t + 64 * K)], true, 1⟩, none, some ⟨X.map u8v, true, 1⟩] := by
  have hds : d.data.toList.length = d.size := Array.length_toList (xs := d.data)
  have hXl : X.length = n + d.size := by rw [hX, List.length_append, hds, List.length_take, List.length_drop]; omega
  have hq : List.take (n * 1) (List.drop o (L.map u8v)) ++ d.data.toList.map u8v = X.map u8v := by rw [hX, Nat.mul_one, List.map_append, List.map_take, List.map_drop]
  refine acalls_of_aw Tryz.func155 rfl rfl ?_
  repeat' first | refine st ?_ | refine stm ?_ | refine run_nil ?_ | refine Jz ?_ | refine Jw ?_ | refine aw_block ?_
  rw [hq]
  refine aw_loopg
    (S := fun x : TgQ => [(0, .pointer (some ⟨0, 0, none⟩))])
    (B := fun x : TgQ => [some ⟨[.int .u32 x.c0, .int .u32 x.c1, .int .u32 x.c2, .int .u32 x.c3, .int .u32 x.c4, .int .u32 x.c5, .int .u32 x.c6, .int .u32 x.c7, .slice (some ⟨2, x.o, none⟩) x.n x.n, .int .u64 x.t], true, 1⟩, none, some ⟨X.map u8v, true, 1⟩])
    (R := fun x : TgQ => 0 ≤ x.k ∧ x.o = 64 * x.k.toNat ∧ x.o + x.n = X.length ∧ (0 < x.n ∨ X.length = 0) ∧ x.t = t + 64 * x.k ∧ [x.c0, x.c1, x.c2, x.c3, x.c4, x.c5, x.c6, x.c7] = ab X t [p0, p1, p2, p3, p4, p5, p6, p7] x.k.toNat)
    (μ := fun x : TgQ => x.n) ⟨0, 0, n + d.size, t, p0, p1, p2, p3, p4, p5, p6, p7⟩ (fits [0, 1, 2]) ⟨by dsimp only; omega, by dsimp only; omega, by dsimp only; omega, by dsimp only; omega, by dsimp only; omega, rfl⟩ ?_
  rintro ⟨k, o1, n1, t1, v0, v1, v2, v3, v4, v5, v6, v7⟩ ⟨g1, g2, g3, g4, g5, hC⟩
  dsimp only at *
  obtain ⟨k, rfl⟩ : ∃ n : Nat, k = n := ⟨k.toNat, by omega⟩
  rw [Int.toNat_natCast] at g2 hC
  by_cases hn1 : 64 < n1
  · obtain ⟨W, hW⟩ : ∃ W, wd (fun j => (X.getD (o1 + j) 0).toNat) 64 = W := ⟨_, rfl⟩
    have HW := ac_words X 64 o1 64 (by omega) (by omega) W hW
    have hWl : W.length = 16 := by rw [← hW, wd_len]
    have hw : IntKind.u64.wrap (t1 + 64) = t1 + 64 := wrap_id (by simp [IntKind.min, IntKind.signed]; omega) (by simp [IntKind.max, IntKind.signed, IntKind.bits]; omega)
    obtain ⟨C', hC'⟩ : ∃ C', cmp [v0, v1, v2, v3, v4, v5, v6, v7] [W.getD 0 0, W.getD 1 0, W.getD 2 0, W.getD 3 0, W.getD 4 0, W.getD 5 0, W.getD 6 0, W.getD 7 0, W.getD 8 0, W.getD 9 0, W.getD 10 0, W.getD 11 0, W.getD 12 0, W.getD 13 0, W.getD 14 0, W.getD 15 0] (IntKind.u64.wrap (t1 + 64)) false = C' := ⟨_, rfl⟩
    have HC := aw_compress v0 v1 v2 v3 v4 v5 v6 v7 (W.getD 0 0) (W.getD 1 0) (W.getD 2 0) (W.getD 3 0) (W.getD 4 0) (W.getD 5 0) (W.getD 6 0) (W.getD 7 0) (W.getD 8 0) (W.getD 9 0) (W.getD 10 0) (W.getD 11 0) (W.getD 12 0) (W.getD 13 0) (W.getD 14 0) (W.getD 15 0) (IntKind.u64.wrap (t1 + 64)) false C' hC'
    have hCl : C'.length = 8 := by rw [← hC', cmp_len]; rfl
    repeat' first | refine st ?_ | refine sdR [2] HW ?_ | refine stm ?_ | refine run_nil ?_ | refine sd ?_ | refine sdl ?_ | refine sd_call (HC) ?_ | refine sdb ?_ | refine rund_nil ?_ | refine Jz ?_ | refine Jw ?_ | refine J0 (id := 3) [0,0,2,6,14,0,32,96,224,480,992,0,2048,6144,14336,32766,65535,131071,262143] 18 ?_ | refine aw_block ?_ | refine Js ?_ | refine Jy ?_
    refine Exists.intro ⟨k + 1, _, _, _, _, _, _, _, _, _, _, _⟩ ⟨fits [0, 1, 2], ⟨by dsimp only; omega, by dsimp only; omega, by dsimp only; omega, by dsimp only; omega, by dsimp only; exact hw.trans (by omega), ?_⟩, by dsimp only; omega⟩
    dsimp only
    rw [show ((k : Int) + 1).toNat = k + 1 by omega, ab, ← hC]
    refine (list8_eq hCl).trans ?_
    rw [← hC', list16_eq hWl, hw, ← hW, g2, g5, Int.mul_add, ← Int.add_assoc]
    rfl
  · obtain rfl : K = k := by omega
    repeat' first | refine st ?_ | refine run_nil ?_ | refine Jz ?_ | refine Jw ?_ | refine Jt ?_ | refine aw_exit ?_
    have e0 : n1 = X.length - 64 * K := by omega
    subst g2 g5 e0
    rw [← hC]
    exact pm_normal _ (renumA [0, 1, 2]) rfl
def iv0 (n : Int) : Int := x32 1779033703 (IntKind.u32.wrap (16842784 + IntKind.u32.wrap (256 * n)))
def ivk (n : Int) : List Int := [iv0 n, 3144134277, 1013904242, 2773480762, 1359893119, 2600822924, 528734635, 1541459225]
/-- The digest of bytes, of which the first 64 are a key's if n is its length. -/
def dig (n : Int) (X : List UInt8) : ByteArray :=
  ⟨(outB (cmp (ab X 0 (ivk n) ((X.length - 1) / 64)) (wd (fun j => ((X.getD (64 * ((X.length - 1) / 64) + j) 0).toNat : Int)) (X.length - 64 * ((X.length - 1) / 64))) X.length true) 8).toArray⟩
theorem bs0 {d : ByteArray} : d = ⟨#[]⟩ ↔ d.size = 0 := by
  obtain ⟨l⟩ := d
  constructor
  · rintro h; rw [h]; rfl
  · intro h
    have : l = #[] := Array.eq_empty_of_size_eq_zero h
    rw [this]
set_option maxHeartbeats 1000000 in
theorem ac_start0 (d : ByteArray) (n : Int) (h : d.size = n) (h0 : n = 0) : ACalls Tryz.prog 154 [.string d] [] (.agg #[.int .u32 (iv0 n), .int .u32 3144134277, .int .u32 1013904242, .int .u32 2773480762, .int .u32 1359893119, .int .u32 2600822924, .int .u32 528734635, .int .u32 1541459225, .slice (some ⟨0, 0, none⟩) 0 0, .int .u64 0]) [some ⟨[], true, 1⟩] := by
  refine acalls_of_aw Tryz.func154 rfl rfl ?_
  refine aw_ghost 1 rfl ?_
  repeat' first | intro h1 | refine st ?_ | refine st_call (aw_init) ?_ | refine stm ?_ | refine run_nil ?_ | refine Jz ?_ | refine Jw ?_ | refine Ju ?_ ?_ | refine Jy ?_ | refine aw_ret ?_
  · exact absurd (bs0.2 (by omega)) h1
  · rw [h]
    refine pmw_ret _ (renumA [0]) ?_
    exact (Wk.aggL (by repeat (first | exact WkL.nil | (apply WkL.cons; (first | exact Wk.refl _ | exact Wk.nil)))))
def pad (d : List UInt8) : List UInt8 := d ++ List.replicate (64 - d.length) 0
theorem pad_len (d : List UInt8) (h : d.length ≤ 64) : (pad d).length = 64 := by simp [pad]; omega
set_option maxHeartbeats 1000000 in
theorem ac_startK (d : ByteArray) (n : Int) (h : d.size = n) (h0 : 0 < n ∧ n ≤ 32) (X : List UInt8) (hX : pad d.data.toList = X) : ACalls Tryz.prog 154 [.string d] [] (.agg #[.int .u32 (iv0 n), .int .u32 3144134277, .int .u32 1013904242, .int .u32 2773480762, .int .u32 1359893119, .int .u32 2600822924, .int .u32 528734635, .int .u32 1541459225, .slice (some ⟨0, 0, none⟩) 64 64, .int .u64 0]) [some ⟨X.map u8v, true, 1⟩] := by
  have hds : d.data.toList.length = d.size := Array.length_toList (xs := d.data)
  refine acalls_of_aw Tryz.func154 rfl rfl ?_
  repeat' first | intro h1 | refine st ?_ | refine st_call (aw_init) ?_ | refine stm ?_ | refine run_nil ?_ | refine Jz ?_ | refine Jw ?_ | refine Ju ?_ ?_ | refine Jy ?_ | refine aw_ret ?_
  · have hq : List.map u8v d.data.toList ++ List.replicate (64 - d.size) (.int .u8 0) = X.map u8v := by rw [← hX, pad, List.map_append, List.map_replicate, hds]; rfl
    have e64 : d.size + (64 - d.size) = 64 := by omega
    refine run_step (ok_append_zeros (k := 64 - d.size) (cs := X.map u8v) (olds := d.data.toList.map u8v) rfl rfl rfl rfl rfl rfl rfl (by omega) (by omega) (by simp) (take_full (by simp)) hq (by omega) (by (repeat constructor))) (Nat.le_of_ble_eq_true rfl) ?_
    rw [e64]
    repeat' first | refine st ?_ | refine stm ?_ | refine run_nil ?_ | refine Jz ?_ | refine Jw ?_ | refine aw_ret ?_
    rw [h]
    exact pm_ret _ (renumA [3]) rfl
  · exact absurd (bs0.1 (Decidable.not_not.1 h1)) (by omega)
/-- What is digested with a key. -/
def kx (k d : List UInt8) : List UInt8 := if k = [] then d else pad k ++ d
set_option maxHeartbeats 4000000 in
theorem ac_Keyed0 (k d : ByteArray) (hk : k.size = 0) (h : d.size ≤ 1048000) : ACalls Tryz.prog 108 [.string k, .string d] [] (.tuple #[.string (dig (k.size : Int) (kx k.data.toList d.data.toList)), .int .i64 0]) [] := by
  have hds : d.data.toList.length = d.size := Array.length_toList (xs := d.data)
  have hks : k.data.toList.length = k.size := Array.length_toList (xs := k.data)
  have hpl : (0 : Nat) = 0 := rfl
  have hk0 : k.data.toList = [] := List.eq_nil_of_length_eq_zero (by omega)
  rw [kx, if_pos hk0, hk]
  obtain ⟨X, hX⟩ : ∃ X, d.data.toList = X := ⟨_, rfl⟩
  obtain ⟨K, hK⟩ : ∃ K, (X.length - 1) / 64 = K := ⟨_, rfl⟩
  obtain ⟨A, hA⟩ : ∃ A, ab X 0 (ivk ((0 : Nat) : Int)) K = A := ⟨_, rfl⟩
  obtain ⟨C, hC⟩ : ∃ C, cmp A (wd (fun j => ((X.getD (64 * K + j) 0).toNat : Int)) (X.length - 64 * K)) X.length true = C := ⟨_, rfl⟩
  have hXl : X.length = 0 + d.size := by rw [← hX]; simp [hds, hpl]
  have hAl : A.length = 8 := by rw [← hA, ab_len]; rfl
  have hdg : dig ((0 : Nat) : Int) X = ⟨(outB C 8).toArray⟩ := by simp only [dig, hK, hA, hC]
  have hS := ac_start0 k 0 (by omega) rfl
  have hT := ac_takeB (iv0 ((0 : Nat) : Int)) 3144134277 1013904242 2773480762 1359893119 2600822924 528734635 1541459225 0 d [] 0 0 (by simp [hpl]) X (by rw [← hX]; first | (rw [List.drop_zero, List.take_of_length_le (by rw [hpl]; exact Nat.le_refl _)]; done) | simp [hpl]) (by omega) (by omega) (by omega) K hK.symm
  rw [show [iv0 ((0 : Nat) : Int), 3144134277, 1013904242, 2773480762, 1359893119, 2600822924, 528734635, 1541459225] = ivk ((0 : Nat) : Int) from rfl, hA] at hT
  have hF := ac_sum1 (A.getD 0 0) (A.getD 1 0) (A.getD 2 0) (A.getD 3 0) (A.getD 4 0) (A.getD 5 0) (A.getD 6 0) (A.getD 7 0) (0 + 64 * (K : Int)) X (X.length - 64 * K) (64 * K) (by omega) (by omega) (by omega) (by omega) C (by rw [list8_eq hAl, ← hC]; congr 1; omega)
  try simp only [hX]
  rw [hdg]
  refine acalls_pure Tryz.func108 rfl rfl rfl ?_
  repeat' first | refine st ?_ | refine stM [] hS ?_ | refine stM [1, 0] hT ?_ | refine stR [2] hF ?_ | refine stm ?_ | refine run_nil ?_ | refine Jz ?_ | refine Jw ?_ | refine Jt ?_ | refine Jy ?_ | refine aw_ret ?_ | refine pp_ret ?_
  rfl
set_option maxHeartbeats 4000000 in
theorem ac_KeyedK (k d : ByteArray) (hk : 0 < k.size ∧ k.size ≤ 32) (h : d.size ≤ 1048000) : ACalls Tryz.prog 108 [.string k, .string d] [] (.tuple #[.string (dig (k.size : Int) (kx k.data.toList d.data.toList)), .int .i64 0]) [] := by
  have hds : d.data.toList.length = d.size := Array.length_toList (xs := d.data)
  have hks : k.data.toList.length = k.size := Array.length_toList (xs := k.data)
  have hpl : (pad k.data.toList).length = 64 := pad_len _ (by omega)
  have hk0 : k.data.toList ≠ [] := fun h => by rw [h] at hks; simp at hks; omega
  rw [kx, if_neg hk0]
  obtain ⟨X, hX⟩ : ∃ X, (pad k.data.toList ++ d.data.toList) = X := ⟨_, rfl⟩
  obtain ⟨K, hK⟩ : ∃ K, (X.length - 1) / 64 = K := ⟨_, rfl⟩
  obtain ⟨A, hA⟩ : ∃ A, ab X 0 (ivk (k.size : Int)) K = A := ⟨_, rfl⟩
  obtain ⟨C, hC⟩ : ∃ C, cmp A (wd (fun j => ((X.getD (64 * K + j) 0).toNat : Int)) (X.length - 64 * K)) X.length true = C := ⟨_, rfl⟩
  have hXl : X.length = 64 + d.size := by rw [← hX]; simp [hds, hpl]
  have hAl : A.length = 8 := by rw [← hA, ab_len]; rfl
  have hdg : dig (k.size : Int) X = ⟨(outB C 8).toArray⟩ := by simp only [dig, hK, hA, hC]
  have hS := ac_startK k (k.size : Int) rfl (by omega) _ rfl
  have hT := ac_takeB (iv0 (k.size : Int)) 3144134277 1013904242 2773480762 1359893119 2600822924 528734635 1541459225 0 d (pad k.data.toList) 0 64 (by simp [hpl]) X (by rw [← hX]; first | (rw [List.drop_zero, List.take_of_length_le (by rw [hpl]; exact Nat.le_refl _)]; done) | simp [hpl]) (by omega) (by omega) (by omega) K hK.symm
  rw [show [iv0 (k.size : Int), 3144134277, 1013904242, 2773480762, 1359893119, 2600822924, 528734635, 1541459225] = ivk (k.size : Int) from rfl, hA] at hT
  have hF := ac_sum1 (A.getD 0 0) (A.getD 1 0) (A.getD 2 0) (A.getD 3 0) (A.getD 4 0) (A.getD 5 0) (A.getD 6 0) (A.getD 7 0) (0 + 64 * (K : Int)) X (X.length - 64 * K) (64 * K) (by omega) (by omega) (by omega) (by omega) C (by rw [list8_eq hAl, ← hC]; congr 1; omega)
  try simp only [hX]
  rw [hdg]
  refine acalls_pure Tryz.func108 rfl rfl rfl ?_
  repeat' first | refine st ?_ | refine stM [] hS ?_ | refine stM [1, 0] hT ?_ | refine stR [2] hF ?_ | refine stm ?_ | refine run_nil ?_ | refine Jz ?_ | refine Jw ?_ | refine Jt ?_ | refine Jy ?_ | refine aw_ret ?_ | refine pp_ret ?_
  rfl
theorem ac_Keyed (k d : ByteArray) (hk : k.size ≤ 32) (h : d.size ≤ 1048000) : ACalls Tryz.prog 108 [.string k, .string d] [] (.tuple #[.string (dig (k.size : Int) (kx k.data.toList d.data.toList)), .int .i64 0]) [] := by
  rcases Nat.eq_zero_or_pos k.size with h0 | h0
  · exact ac_Keyed0 k d h0 h
  · exact ac_KeyedK k d ⟨h0, hk⟩ h
end Go.Proofs.YtdbcbclapipgdaaGreatDoor
