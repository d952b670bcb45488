/- Digest: the state's digest; Digest: a state takes bytes in; Digest: a state begins; whole digests; Bits: the writer; Bits: the reference's writer. -/
import Derived.Test.YtdbcbclapipgdaaGreatDoorVO
import Derived.Test.YtdbcbclapipgdaaGreatDoorJ
import Derived.Test.YtdbcbclapipgdaaGreatDoorC1
set_option linter.unusedVariables false
set_option linter.unusedSimpArgs false
namespace Go.Proofs.YtdbcbclapipgdaaGreatDoor
open Go Av
set_option maxRecDepth 20000
theorem list16_eq {W : List Int} (h : W.length = 16) : [(W.getD 0 0), (W.getD 1 0), (W.getD 2 0), (W.getD 3 0), (W.getD 4 0), (W.getD 5 0), (W.getD 6 0), (W.getD 7 0), (W.getD 8 0), (W.getD 9 0), (W.getD 10 0), (W.getD 11 0), (W.getD 12 0), (W.getD 13 0), (W.getD 14 0), (W.getD 15 0)] = W := by
  obtain ⟨a0, a1, a2, a3, a4, a5, a6, a7, b0, b1, b2, b3, b4, b5, b6, b7, rfl⟩ := list16 h
  rfl
set_option maxHeartbeats 4000000 in
theorem ac_sum1 (p0 p1 p2 p3 p4 p5 p6 p7 t : Int) (L : List UInt8) (n o : Nat) (ht : 0 ≤ t) (hn : n ≤ 64) (hL : o + n ≤ L.length) (hT : t + n ≤ 9223372036854775807) (C : List Int) (hC : cmp [p0, p1, p2, p3, p4, p5, p6, p7] (wd (fun j => (L.getD (o + j) 0).toNat) n) (t + n) true = C) :
    ACalls Tryz.prog 156 [.agg #[.int .u32 p0, .int .u32 p1, .int .u32 p2, .int .u32 p3, .int .u32 p4, .int .u32 p5, .int .u32 p6, .int .u32 p7, .slice (some ⟨0, o, none⟩) n n, .int .u64 t]] [some ⟨L.map u8v, false, 1⟩] (.string ⟨(outB C 8).toArray⟩) [none] := by
  obtain ⟨W, hW⟩ : ∃ W, wd (fun j => (L.getD (o + j) 0).toNat) n = W := ⟨_, rfl⟩
  have HW := ac_words L n o n hL hn W hW
  have hWl : W.length = 16 := by rw [← hW, wd_len]
  rw [hW, ← list16_eq hWl] at hC
  have hw : IntKind.u64.wrap (t + n) = t + n := wrap_id (by simp [IntKind.min, IntKind.signed]; omega) (by simp [IntKind.max, IntKind.signed, IntKind.bits]; omega)
  have HC := aw_compress p0 p1 p2 p3 p4 p5 p6 p7 (W.getD 0 0) (W.getD 1 0) (W.getD 2 0) (W.getD 3 0) (W.getD 4 0) (W.getD 5 0) (W.getD 6 0) (W.getD 7 0) (W.getD 8 0) (W.getD 9 0) (W.getD 10 0) (W.getD 11 0) (W.getD 12 0) (W.getD 13 0) (W.getD 14 0) (W.getD 15 0) (IntKind.u64.wrap (t + n)) true C (by rw [hw]; exact hC)
  refine acalls_law Tryz.func156 rfl rfl rfl ?_
  repeat' first | intro h1 | refine st (h := ok_bytes_str (l := outB C 8) rfl rfl (Nat.le_of_ble_eq_true rfl) (by simp only [outB, List.nil_append, List.cons_append, List.append_nil, List.map_cons, List.map_nil, u8v_b8Q]; rfl)) ?_ | refine st ?_ | refine st_call (HC) ?_ | refine sdR [0] HW ?_ | refine aw_loop_in ?_ | refine awl_round ?_ | refine then_round ?_ | refine stm ?_ | refine Ja ?_ | refine Jb ?_ | refine Jc ?_ | refine Jd ?_ | refine Je ?_ | refine Jf ?_ | refine Jg ?_ | refine Jh ?_ ?_ | refine Ji ?_ ?_ | refine Jj ?_ ?_ | refine run_nil ?_ | refine sd ?_ | refine sdl ?_ | refine sd_call (HC) ?_ | refine sdm (n := 1) ?_ | refine sdm ?_ | refine sdb ?_ | refine Jk ?_ | refine Jl ?_ | refine Jm ?_ | refine Jn ?_ ?_ | refine Jo ?_ ?_ | refine Jp ?_ ?_ | refine rund_nil ?_ | refine Jz ?_ | refine Jw ?_ | refine J0 (id := 2) [0,1,0,4,12,0,32,0,128,384,896,2016,4095,0] 14 ?_ | refine aw_block ?_ | refine Jq ?_ | refine Jr ?_ | refine Js ?_ | refine Jt ?_ | refine Ju ?_ ?_ | refine Jv ?_ ?_ | refine Jy ?_ | refine aw_exit ?_ | refine aw_ret ?_ | refine pp_ret ?_ | refine pp_normal ?_
  all_goals rfl
/-- The chain behind k blocks. -/
def ab (X : List UInt8) (t : Int) (C : List Int) : Nat → List Int
  | 0 => C
  | k + 1 => cmp (ab X t C k) (wd (fun j => (X.getD (64 * k + j) 0).toNat) 64) (t + 64 * (k + 1)) false
theorem cmp_len (H M t l) : (cmp H M t l).length = H.length := by simp [cmp, fold8_len]
theorem ab_len (X t C k) : (ab X t C k).length = C.length := by induction k with
  | zero => rfl
  | succ k ih => simp [ab, cmp_len, ih]
theorem list8_eq {C : List Int} (h : C.length = 8) : [C.getD 0 0, C.getD 1 0, C.getD 2 0, C.getD 3 0, C.getD 4 0, C.getD 5 0, C.getD 6 0, C.getD 7 0] = C := by
  obtain ⟨a0, a1, a2, a3, a4, a5, a6, a7, rfl⟩ := list8 h
  rfl
structure TgQ where
  k : Int
  o : Nat
  n : Nat
  t : Int
  c0 : Int
  c1 : Int
  c2 : Int
  c3 : Int
  c4 : Int
  c5 : Int
  c6 : Int
  c7 : Int
set_option maxHeartbeats 4000000 in
theorem ac_takeB (p0 p1 p2 p3 p4 p5 p6 p7 t : Int) (d : ByteArray) (L : List UInt8) (o n : Nat) (hL : o + n ≤ L.length) (X : List UInt8) (hX : X = (L.drop o).take n ++ d.data.toList) (h2 : X.length ≤ 1048576) (ht : 0 ≤ t) (hT : t ≤ 1099511627776) (K : Nat) (hK : K = (X.length - 1) / 64) :
    ACalls Tryz.prog 155 [.pointer (some ⟨0, 0, none⟩), .string d] [some ⟨[.int .u32 p0, .int .u32 p1, .int .u32 p2, .int .u32 p3, .int .u32 p4, .int .u32 p5, .int .u32 p6, .int .u32 p7, .slice (some ⟨1, o, none⟩) n n, .int .u64 t], true, 1⟩, some ⟨L.map u8v, true, 1⟩] (.tuple #[]) [some ⟨[.int .u32 ((ab X t [p0, p1, p2, p3, p4, p5, p6, p7] K).getD 0 0), .int .u32 ((ab X t [p0, p1, p2, p3, p4, p5, p6, p7] K).getD 1 0), .int .u32 ((ab X t [p0, p1, p2, p3, p4, p5, p6, p7] K).getD 2 0), .int .u32 ((ab X t [p0, p1, p2, p3, p4, p5, p6, p7] K).getD 3 0), .int .u32 ((ab X t [p0, p1, p2, p3, p4, p5, p6, p7] K).getD 4 0), .int .u32 ((ab X t [p0, p1, p2, p3, p4, p5, p6, p7] K).getD 5 0), .int .u32 ((ab X t [p0, p1, p2, p3, p4, p5, p6, p7] K).getD 6 0), .int .u32 ((ab X t [p0, p1, p2, p3, p4, p5, p6, p7] K).getD 7 0), .slice (some ⟨2, 64 * K, none⟩) (X.length - 64 * K) (X.length - 64 * K), .int .u64 (t + 64 * K)], true, 1⟩, none, some ⟨X.map u8v, true, 1⟩] := by
  have hds : d.data.toList.length = d.size := Array.length_toList (xs := d.data)
  have hXl : X.length = n + d.size := by rw [hX, List.length_append, hds, List.length_take, List.length_drop]; omega
  have hq : List.take (n * 1) (List.drop o (L.map u8v)) ++ d.data.toList.map u8v = X.map u8v := by rw [hX, Nat.mul_one, List.map_append, List.map_take, List.map_drop]
  refine acalls_of_aw Tryz.func155 rfl rfl ?_
  repeat' first | intro h1 | refine st ?_ | refine stm ?_ | refine Ja ?_ | refine Jb ?_ | refine Jc ?_ | refine Jd ?_ | refine Je ?_ | refine Jf ?_ | refine Jg ?_ | refine Jh ?_ ?_ | refine Ji ?_ ?_ | refine Jj ?_ ?_ | refine run_nil ?_ | refine sd ?_ | refine sdl ?_ | refine sdm (n := 1) ?_ | refine sdm ?_ | refine sdb ?_ | refine Jk ?_ | refine Jl ?_ | refine Jm ?_ | refine Jn ?_ ?_ | refine Jo ?_ ?_ | refine Jp ?_ ?_ | refine rund_nil ?_ | refine Jz ?_ | refine Jw ?_ | refine J0 (id := 3) [0,0,2,6,14,0,32,96,224,480,992,0,2048,6144,14336,32766,65535,131071,262143] 18 ?_ | refine aw_block ?_ | refine Jq ?_ | refine Jr ?_ | refine Js ?_ | refine Jt ?_ | refine Ju ?_ ?_ | refine Jv ?_ ?_ | refine Jy ?_ | refine aw_exit ?_ | refine aw_ret ?_ | refine pp_ret ?_ | refine pp_normal ?_
  rw [hq]
  refine aw_loopg
    (S := fun x : TgQ => [(0, .pointer (some ⟨0, 0, none⟩))])
    (B := fun x : TgQ => [some ⟨[.int .u32 x.c0, .int .u32 x.c1, .int .u32 x.c2, .int .u32 x.c3, .int .u32 x.c4, .int .u32 x.c5, .int .u32 x.c6, .int .u32 x.c7, .slice (some ⟨2, x.o, none⟩) x.n x.n, .int .u64 x.t], true, 1⟩, none, some ⟨X.map u8v, true, 1⟩])
    (R := fun x : TgQ => 0 ≤ x.k ∧ x.o = 64 * x.k.toNat ∧ x.o + x.n = X.length ∧ (0 < x.n ∨ X.length = 0) ∧ x.t = t + 64 * x.k ∧ [x.c0, x.c1, x.c2, x.c3, x.c4, x.c5, x.c6, x.c7] = ab X t [p0, p1, p2, p3, p4, p5, p6, p7] x.k.toNat)
    (μ := fun x : TgQ => x.n) ⟨0, 0, n + d.size, t, p0, p1, p2, p3, p4, p5, p6, p7⟩ (fits [0, 1, 2]) ⟨by dsimp only; omega, by dsimp only; omega, by dsimp only; omega, by dsimp only; omega, by dsimp only; omega, rfl⟩ ?_
  rintro ⟨k, o1, n1, t1, v0, v1, v2, v3, v4, v5, v6, v7⟩ ⟨g1, g2, g3, g4, g5, hC⟩
  dsimp only at *
  obtain ⟨k, rfl⟩ : ∃ n : Nat, k = n := ⟨k.toNat, by omega⟩
  rw [Int.toNat_natCast] at g2 hC
  by_cases hn1 : 64 < n1
  · obtain ⟨W, hW⟩ : ∃ W, wd (fun j => (X.getD (o1 + j) 0).toNat) 64 = W := ⟨_, rfl⟩
    have HW := ac_words X 64 o1 64 (by omega) (by omega) W hW
    have hWl : W.length = 16 := by rw [← hW, wd_len]
    have hw : IntKind.u64.wrap (t1 + 64) = t1 + 64 := wrap_id (by simp [IntKind.min, IntKind.signed]; omega) (by simp [IntKind.max, IntKind.signed, IntKind.bits]; omega)
    obtain ⟨C', hC'⟩ : ∃ C', cmp [v0, v1, v2, v3, v4, v5, v6, v7] [W.getD 0 0, W.getD 1 0, W.getD 2 0, W.getD 3 0, W.getD 4 0, W.getD 5 0, W.getD 6 0, W.getD 7 0, W.getD 8 0, W.getD 9 0, W.getD 10 0, W.getD 11 0, W.getD 12 0, W.getD 13 0, W.getD 14 0, W.getD 15 0] (IntKind.u64.wrap (t1 + 64)) false = C' := ⟨_, rfl⟩
    have HC := aw_compress v0 v1 v2 v3 v4 v5 v6 v7 (W.getD 0 0) (W.getD 1 0) (W.getD 2 0) (W.getD 3 0) (W.getD 4 0) (W.getD 5 0) (W.getD 6 0) (W.getD 7 0) (W.getD 8 0) (W.getD 9 0) (W.getD 10 0) (W.getD 11 0) (W.getD 12 0) (W.getD 13 0) (W.getD 14 0) (W.getD 15 0) (IntKind.u64.wrap (t1 + 64)) false C' hC'
    have hCl : C'.length = 8 := by rw [← hC', cmp_len]; rfl
    repeat' first | intro h1 | refine st ?_ | refine st_call (HC) ?_ | refine sdR [2] HW ?_ | refine stm ?_ | refine Ja ?_ | refine Jb ?_ | refine Jc ?_ | refine Jd ?_ | refine Je ?_ | refine Jf ?_ | refine Jg ?_ | refine Jh ?_ ?_ | refine Ji ?_ ?_ | refine Jj ?_ ?_ | refine run_nil ?_ | refine sd ?_ | refine sdl ?_ | refine sd_call (HC) ?_ | refine sdm (n := 1) ?_ | refine sdm ?_ | refine sdb ?_ | refine Jk ?_ | refine Jl ?_ | refine Jm ?_ | refine Jn ?_ ?_ | refine Jo ?_ ?_ | refine Jp ?_ ?_ | refine rund_nil ?_ | refine Jz ?_ | refine Jw ?_ | refine J0 (id := 3) [0,0,2,6,14,0,32,96,224,480,992,0,2048,6144,14336,32766,65535,131071,262143] 18 ?_ | refine aw_block ?_ | refine Jq ?_ | refine Jr ?_ | refine Js ?_ | refine Jt ?_ | refine Ju ?_ ?_ | refine Jv ?_ ?_ | refine Jy ?_ | refine aw_exit ?_ | refine aw_ret ?_ | refine pp_ret ?_ | refine pp_normal ?_
    refine Exists.intro ⟨k + 1, _, _, _, _, _, _, _, _, _, _, _⟩ ⟨fits [0, 1, 2], ⟨by dsimp only; omega, by dsimp only; omega, by dsimp only; omega, by dsimp only; omega, by dsimp only; exact hw.trans (by omega), ?_⟩, by dsimp only; omega⟩
    dsimp only
    rw [show ((k : Int) + 1).toNat = k + 1 by omega, ab, ← hC]
    refine (list8_eq hCl).trans ?_
    rw [← hC', list16_eq hWl, hw, ← hW, g2, g5, Int.mul_add, ← Int.add_assoc]
    rfl
  · obtain rfl : K = k := by omega
    repeat' first | intro h1 | refine st ?_ | refine stm ?_ | refine Ja ?_ | refine Jb ?_ | refine Jc ?_ | refine Jd ?_ | refine Je ?_ | refine Jf ?_ | refine Jg ?_ | refine Jh ?_ ?_ | refine Ji ?_ ?_ | refine Jj ?_ ?_ | refine run_nil ?_ | refine sd ?_ | refine sdl ?_ | refine sdm (n := 1) ?_ | refine sdm ?_ | refine sdb ?_ | refine Jk ?_ | refine Jl ?_ | refine Jm ?_ | refine Jn ?_ ?_ | refine Jo ?_ ?_ | refine Jp ?_ ?_ | refine rund_nil ?_ | refine Jz ?_ | refine Jw ?_ | refine J0 (id := 3) [0,0,2,6,14,0,32,96,224,480,992,0,2048,6144,14336,32766,65535,131071,262143] 18 ?_ | refine aw_block ?_ | refine Jq ?_ | refine Jr ?_ | refine Js ?_ | refine Jt ?_ | refine Ju ?_ ?_ | refine Jv ?_ ?_ | refine Jy ?_ | refine aw_exit ?_ | refine aw_ret ?_ | refine pp_ret ?_ | refine pp_normal ?_
    have e0 : n1 = X.length - 64 * K := by omega
    subst g2 g5 e0
    rw [← hC]
    exact pm_normal _ (renumA [0, 1, 2]) rfl
def iv0 (n : Int) : Int := x32 1779033703 (IntKind.u32.wrap (16842784 + IntKind.u32.wrap (256 * n)))
def ivk (n : Int) : List Int := [iv0 n, 3144134277, 1013904242, 2773480762, 1359893119, 2600822924, 528734635, 1541459225]
/-- The digest of bytes, of which the first 64 are a key's if n is its length. -/
def dig (n : Int) (X : List UInt8) : ByteArray :=
  ⟨(outB (cmp (ab X 0 (ivk n) ((X.length - 1) / 64)) (wd (fun j => ((X.getD (64 * ((X.length - 1) / 64) + j) 0).toNat : Int)) (X.length - 64 * ((X.length - 1) / 64))) X.length true) 8).toArray⟩
theorem bs0 {d : ByteArray} : d = ⟨#[]⟩ ↔ d.size = 0 := by
  obtain ⟨l⟩ := d
  constructor
  · rintro h; rw [h]; rfl
  · intro h
    have : l = #[] := Array.eq_empty_of_size_eq_zero h
    rw [this]
set_option maxHeartbeats 1000000 in
theorem ac_start0 (d : ByteArray) (n : Int) (h : d.size = n) (h0 : n = 0) : ACalls Tryz.prog 154 [.string d] [] (.agg #[.int .u32 (iv0 n), .int .u32 3144134277, .int .u32 1013904242, .int .u32 2773480762, .int .u32 1359893119, .int .u32 2600822924, .int .u32 528734635, .int .u32 1541459225, .slice (some ⟨0, 0, none⟩) 0 0, .int .u64 0]) [some ⟨[], true, 1⟩] := by
  refine acalls_of_aw Tryz.func154 rfl rfl ?_
  refine aw_ghost 1 rfl ?_
  repeat' first | intro h1 | refine st ?_ | refine st_call (aw_init) ?_ | refine stm ?_ | refine Ja ?_ | refine Jb ?_ | refine Jc ?_ | refine Jd ?_ | refine Je ?_ | refine Jf ?_ | refine Jg ?_ | refine Jh ?_ ?_ | refine Ji ?_ ?_ | refine Jj ?_ ?_ | refine run_nil ?_ | refine Jz ?_ | refine Jw ?_ | refine aw_block ?_ | refine Jq ?_ | refine Jr ?_ | refine Js ?_ | refine Jt ?_ | refine Ju ?_ ?_ | refine Jv ?_ ?_ | refine Jy ?_ | refine aw_exit ?_ | refine aw_ret ?_ | refine pp_ret ?_ | refine pp_normal ?_
  · exact absurd (bs0.2 (by omega)) h1
  · rw [h]
    refine pmw_ret _ (renumA [0]) ?_
    exact (Wk.aggL (by repeat (first | exact WkL.nil | (apply WkL.cons; (first | exact Wk.refl _ | exact Wk.nil)))))
def pad (d : List UInt8) : List UInt8 := d ++ List.replicate (64 - d.length) 0
theorem pad_len (d : List UInt8) (h : d.length ≤ 64) : (pad d).length = 64 := by simp [pad]; omega
set_option maxHeartbeats 1000000 in
theorem ac_startK (d : ByteArray) (n : Int) (h : d.size = n) (h0 : 0 < n ∧ n ≤ 32) (X : List UInt8) (hX : pad d.data.toList = X) : ACalls Tryz.prog 154 [.string d] [] (.agg #[.int .u32 (iv0 n), .int .u32 3144134277, .int .u32 1013904242, .int .u32 2773480762, .int .u32 1359893119, .int .u32 2600822924, .int .u32 528734635, .int .u32 1541459225, .slice (some ⟨0, 0, none⟩) 64 64, .int .u64 0]) [some ⟨X.map u8v, true, 1⟩] := by
  have hds : d.data.toList.length = d.size := Array.length_toList (xs := d.data)
  refine acalls_of_aw Tryz.func154 rfl rfl ?_
  repeat' first | intro h1 | refine st ?_ | refine st_call (aw_init) ?_ | refine stm ?_ | refine Ja ?_ | refine Jb ?_ | refine Jc ?_ | refine Jd ?_ | refine Je ?_ | refine Jf ?_ | refine Jg ?_ | refine Jh ?_ ?_ | refine Ji ?_ ?_ | refine Jj ?_ ?_ | refine run_nil ?_ | refine Jz ?_ | refine Jw ?_ | refine aw_block ?_ | refine Jq ?_ | refine Jr ?_ | refine Js ?_ | refine Jt ?_ | refine Ju ?_ ?_ | refine Jv ?_ ?_ | refine Jy ?_ | refine aw_exit ?_ | refine aw_ret ?_ | refine pp_ret ?_ | refine pp_normal ?_
  · have hq : List.map u8v d.data.toList ++ List.replicate (64 - d.size) (.int .u8 0) = X.map u8v := by rw [← hX, pad, List.map_append, List.map_replicate, hds]; rfl
    have e64 : d.size + (64 - d.size) = 64 := by omega
    refine run_step (ok_append_zeros (k := 64 - d.size) (cs := X.map u8v) (olds := d.data.toList.map u8v) rfl rfl rfl rfl rfl rfl rfl (by omega) (by omega) (by simp) (take_full (by simp)) hq (by omega) (by (repeat constructor))) (Nat.le_of_ble_eq_true rfl) ?_
    rw [e64]
    repeat' first | intro h1 | refine st ?_ | refine stm ?_ | refine Ja ?_ | refine Jb ?_ | refine Jc ?_ | refine Jd ?_ | refine Je ?_ | refine Jf ?_ | refine Jg ?_ | refine Jh ?_ ?_ | refine Ji ?_ ?_ | refine Jj ?_ ?_ | refine run_nil ?_ | refine Jz ?_ | refine Jw ?_ | refine aw_block ?_ | refine Jq ?_ | refine Jr ?_ | refine Js ?_ | refine Jt ?_ | refine Ju ?_ ?_ | refine Jv ?_ ?_ | refine Jy ?_ | refine aw_exit ?_ | refine aw_ret ?_ | refine pp_ret ?_ | refine pp_normal ?_
    rw [h]
    exact pm_ret _ (renumA [3]) rfl
  · exact absurd (bs0.1 (Decidable.not_not.1 h1)) (by omega)
/-- What is digested with a key. -/
def kx (k d : List UInt8) : List UInt8 := if k = [] then d else pad k ++ d
set_option maxHeartbeats 4000000 in
theorem ac_Keyed0 (k d : ByteArray) (hk : k.size = 0) (h : d.size ≤ 1048000) : ACalls Tryz.prog 108 [.string k, .string d] [] (.tuple #[.string (dig (k.size : Int) (kx k.data.toList d.data.toList)), .int .i64 0]) [] := by
  have hds : d.data.toList.length = d.size := Array.length_toList (xs := d.data)
  have hks : k.data.toList.length = k.size := Array.length_toList (xs := k.data)
  have hpl : (0 : Nat) = 0 := rfl
  have hk0 : k.data.toList = [] := List.eq_nil_of_length_eq_zero (by omega)
  rw [kx, if_pos hk0, hk]
  obtain ⟨X, hX⟩ : ∃ X, d.data.toList = X := ⟨_, rfl⟩
  obtain ⟨K, hK⟩ : ∃ K, (X.length - 1) / 64 = K := ⟨_, rfl⟩
  obtain ⟨A, hA⟩ : ∃ A, ab X 0 (ivk ((0 : Nat) : Int)) K = A := ⟨_, rfl⟩
  obtain ⟨C, hC⟩ : ∃ C, cmp A (wd (fun j => ((X.getD (64 * K + j) 0).toNat : Int)) (X.length - 64 * K)) X.length true = C := ⟨_, rfl⟩
  have hXl : X.length = 0 + d.size := by rw [← hX]; simp [hds, hpl]
  have hAl : A.length = 8 := by rw [← hA, ab_len]; rfl
  have hdg : dig ((0 : Nat) : Int) X = ⟨(outB C 8).toArray⟩ := by simp only [dig, hK, hA, hC]
  have hS := ac_start0 k 0 (by omega) rfl
  have hT := ac_takeB (iv0 ((0 : Nat) : Int)) 3144134277 1013904242 2773480762 1359893119 2600822924 528734635 1541459225 0 d [] 0 0 (by simp [hpl]) X (by rw [← hX]; first | (rw [List.drop_zero, List.take_of_length_le (by rw [hpl]; exact Nat.le_refl _)]; done) | simp [hpl]) (by omega) (by omega) (by omega) K hK.symm
  rw [show [iv0 ((0 : Nat) : Int), 3144134277, 1013904242, 2773480762, 1359893119, 2600822924, 528734635, 1541459225] = ivk ((0 : Nat) : Int) from rfl, hA] at hT
  have hF := ac_sum1 (A.getD 0 0) (A.getD 1 0) (A.getD 2 0) (A.getD 3 0) (A.getD 4 0) (A.getD 5 0) (A.getD 6 0) (A.getD 7 0) (0 + 64 * (K : Int)) X (X.length - 64 * K) (64 * K) (by omega) (by omega) (by omega) (by omega) C (by rw [list8_eq hAl, ← hC]; congr 1; omega)
  try simp only [hX]
  rw [hdg]
  refine acalls_pure Tryz.func108 rfl rfl rfl ?_
  repeat' first | intro h1 | refine st ?_ | refine stM [] hS ?_ | refine stM [1, 0] hT ?_ | refine stR [2] hF ?_ | refine sdR [2] hF ?_ | refine stm ?_ | refine Ja ?_ | refine Jb ?_ | refine Jc ?_ | refine Jd ?_ | refine Je ?_ | refine Jf ?_ | refine Jg ?_ | refine Jh ?_ ?_ | refine Ji ?_ ?_ | refine Jj ?_ ?_ | refine run_nil ?_ | refine Jz ?_ | refine Jw ?_ | refine aw_block ?_ | refine Jq ?_ | refine Jr ?_ | refine Js ?_ | refine Jt ?_ | refine Ju ?_ ?_ | refine Jv ?_ ?_ | refine Jy ?_ | refine aw_exit ?_ | refine aw_ret ?_ | refine pp_ret ?_ | refine pp_normal ?_
  rfl
set_option maxHeartbeats 4000000 in
theorem ac_KeyedK (k d : ByteArray) (hk : 0 < k.size ∧ k.size ≤ 32) (h : d.size ≤ 1048000) : ACalls Tryz.prog 108 [.string k, .string d] [] (.tuple #[.string (dig (k.size : Int) (kx k.data.toList d.data.toList)), .int .i64 0]) [] := by
  have hds : d.data.toList.length = d.size := Array.length_toList (xs := d.data)
  have hks : k.data.toList.length = k.size := Array.length_toList (xs := k.data)
  have hpl : (pad k.data.toList).length = 64 := pad_len _ (by omega)
  have hk0 : k.data.toList ≠ [] := fun h => by rw [h] at hks; simp at hks; omega
  rw [kx, if_neg hk0]
  obtain ⟨X, hX⟩ : ∃ X, (pad k.data.toList ++ d.data.toList) = X := ⟨_, rfl⟩
  obtain ⟨K, hK⟩ : ∃ K, (X.length - 1) / 64 = K := ⟨_, rfl⟩
  obtain ⟨A, hA⟩ : ∃ A, ab X 0 (ivk (k.size : Int)) K = A := ⟨_, rfl⟩
  obtain ⟨C, hC⟩ : ∃ C, cmp A (wd (fun j => ((X.getD (64 * K + j) 0).toNat : Int)) (X.length - 64 * K)) X.length true = C := ⟨_, rfl⟩
  have hXl : X.length = 64 + d.size := by rw [← hX]; simp [hds, hpl]
  have hAl : A.length = 8 := by rw [← hA, ab_len]; rfl
  have hdg : dig (k.size : Int) X = ⟨(outB C 8).toArray⟩ := by simp only [dig, hK, hA, hC]
  have hS := ac_startK k (k.size : Int) rfl (by omega) _ rfl
  have hT := ac_takeB (iv0 (k.size : Int)) 3144134277 1013904242 2773480762 1359893119 2600822924 528734635 1541459225 0 d (pad k.data.toList) 0 64 (by simp [hpl]) X (by rw [← hX]; first | (rw [List.drop_zero, List.take_of_length_le (by rw [hpl]; exact Nat.le_refl _)]; done) | simp [hpl]) (by omega) (by omega) (by omega) K hK.symm
  rw [show [iv0 (k.size : Int), 3144134277, 1013904242, 2773480762, 1359893119, 2600822924, 528734635, 1541459225] = ivk (k.size : Int) from rfl, hA] at hT
  have hF := ac_sum1 (A.getD 0 0) (A.getD 1 0) (A.getD 2 0) (A.getD 3 0) (A.getD 4 0) (A.getD 5 0) (A.getD 6 0) (A.getD 7 0) (0 + 64 * (K : Int)) X (X.length - 64 * K) (64 * K) (by omega) (by omega) (by omega) (by omega) C (by rw [list8_eq hAl, ← hC]; congr 1; omega)
  try simp only [hX]
  rw [hdg]
  refine acalls_pure Tryz.func108 rfl rfl rfl ?_
  repeat' first | intro h1 | refine st ?_ | refine stM [] hS ?_ | refine stM [1, 0] hT ?_ | refine stR [2] hF ?_ | refine sdR [2] hF ?_ | refine stm ?_ | refine Ja ?_ | refine Jb ?_ | refine Jc ?_ | refine Jd ?_ | refine Je ?_ | refine Jf ?_ | refine Jg ?_ | refine Jh ?_ ?_ | refine Ji ?_ ?_ | refine Jj ?_ ?_ | refine run_nil ?_ | refine Jz ?_ | refine Jw ?_ | refine aw_block ?_ | refine Jq ?_ | refine Jr ?_ | refine Js ?_ | refine Jt ?_ | refine Ju ?_ ?_ | refine Jv ?_ ?_ | refine Jy ?_ | refine aw_exit ?_ | refine aw_ret ?_ | refine pp_ret ?_ | refine pp_normal ?_
  rfl
theorem ac_Keyed (k d : ByteArray) (hk : k.size ≤ 32) (h : d.size ≤ 1048000) : ACalls Tryz.prog 108 [.string k, .string d] [] (.tuple #[.string (dig (k.size : Int) (kx k.data.toList d.data.toList)), .int .i64 0]) [] := by
  rcases Nat.eq_zero_or_pos k.size with h0 | h0
  · exact ac_Keyed0 k d h0 h
  · exact ac_KeyedK k d ⟨h0, hk⟩ h
theorem ok_shr_lit {P : Program} {ρ : Operand → Option Value} {m : Mem} {d : Option Tmp} {t : TypeId} {pp : String} {af : Array Edge} {g : Option (Nat × Bool)} {xt yt : TypeId} {x y : Operand} {k k' : IntKind} {a b : Int} (c : Int) (hx : ρ x = some (.int k a)) (hy : ρ y = some (.int k' b)) (h : 0 ≤ b) (hc : (2 : Int) ^ (min b.toNat k.bits) = c) :
    OpOK P ⟨d, .binOp .shr xt x y yt, t, pp, af, g⟩ ρ m (.int k (a / c)) m := by
  rw [← hc]
  exact ok_shr hx hy h
/-- How many bits a number has. -/
def bl (x : Nat) : Int := if x = 0 then 0 else (Nat.log2 x : Int) + 1
theorem bl_div (x k : Nat) (h : 2 ^ k ≤ x) : bl x = k + bl (x / 2 ^ k) := by
  have h2 : 0 < 2 ^ k := Nat.pos_of_ne_zero (by simp)
  have hx : x ≠ 0 := by omega
  have hd : x / 2 ^ k ≠ 0 := by have := Nat.div_pos h h2; omega
  unfold bl
  rw [if_neg hx, if_neg hd]
  have e : Nat.log2 x = k + Nat.log2 (x / 2 ^ k) := by
    rw [Nat.log2_eq_iff hx]
    obtain ⟨a, b⟩ := (Nat.log2_eq_iff hd).1 rfl
    generalize Nat.log2 (x / 2 ^ k) = q at a b
    constructor
    · rw [Nat.add_comm, Nat.pow_add]
      exact (Nat.le_div_iff_mul_le h2).1 a
    · rw [show k + q + 1 = (q + 1) + k by omega, Nat.pow_add]
      exact (Nat.div_lt_iff_lt_mul h2).1 b
  rw [e]
  omega
def tab : ByteArray := ⟨(([0, 1, 2, 2, 3, 3, 3, 3, 4, 4, 4, 4, 4, 4, 4, 4, 5, 5, 5, 5, 5, 5, 5, 5, 5, 5, 5, 5, 5, 5, 5, 5, 6, 6, 6, 6, 6, 6, 6, 6, 6, 6, 6, 6, 6, 6, 6, 6, 6, 6, 6, 6, 6, 6, 6, 6, 6, 6, 6, 6, 6, 6, 6, 6].append [7, 7, 7, 7, 7, 7, 7, 7, 7, 7, 7, 7, 7, 7, 7, 7, 7, 7, 7, 7, 7, 7, 7, 7, 7, 7, 7, 7, 7, 7, 7, 7, 7, 7, 7, 7, 7, 7, 7, 7, 7, 7, 7, 7, 7, 7, 7, 7, 7, 7, 7, 7, 7, 7, 7, 7, 7, 7, 7, 7, 7, 7, 7, 7]).append ([8, 8, 8, 8, 8, 8, 8, 8, 8, 8, 8, 8, 8, 8, 8, 8, 8, 8, 8, 8, 8, 8, 8, 8, 8, 8, 8, 8, 8, 8, 8, 8, 8, 8, 8, 8, 8, 8, 8, 8, 8, 8, 8, 8, 8, 8, 8, 8, 8, 8, 8, 8, 8, 8, 8, 8, 8, 8, 8, 8, 8, 8, 8, 8].append [8, 8, 8, 8, 8, 8, 8, 8, 8, 8, 8, 8, 8, 8, 8, 8, 8, 8, 8, 8, 8, 8, 8, 8, 8, 8, 8, 8, 8, 8, 8, 8, 8, 8, 8, 8, 8, 8, 8, 8, 8, 8, 8, 8, 8, 8, 8, 8, 8, 8, 8, 8, 8, 8, 8, 8, 8, 8, 8, 8, 8, 8, 8, 8])).toArray⟩
theorem tab_bl : ∀ y : Fin 256, ((byteAt tab y.val).toNat : Int) = bl y.val := by decide +kernel
theorem tab_bl' (y : Int) (h : 0 ≤ y ∧ y < 256) : bl y.toNat = ((byteAt ⟨(([0, 1, 2, 2, 3, 3, 3, 3, 4, 4, 4, 4, 4, 4, 4, 4, 5, 5, 5, 5, 5, 5, 5, 5, 5, 5, 5, 5, 5, 5, 5, 5, 6, 6, 6, 6, 6, 6, 6, 6, 6, 6, 6, 6, 6, 6, 6, 6, 6, 6, 6, 6, 6, 6, 6, 6, 6, 6, 6, 6, 6, 6, 6, 6].append [7, 7, 7, 7, 7, 7, 7, 7, 7, 7, 7, 7, 7, 7, 7, 7, 7, 7, 7, 7, 7, 7, 7, 7, 7, 7, 7, 7, 7, 7, 7, 7, 7, 7, 7, 7, 7, 7, 7, 7, 7, 7, 7, 7, 7, 7, 7, 7, 7, 7, 7, 7, 7, 7, 7, 7, 7, 7, 7, 7, 7, 7, 7, 7]).append ([8, 8, 8, 8, 8, 8, 8, 8, 8, 8, 8, 8, 8, 8, 8, 8, 8, 8, 8, 8, 8, 8, 8, 8, 8, 8, 8, 8, 8, 8, 8, 8, 8, 8, 8, 8, 8, 8, 8, 8, 8, 8, 8, 8, 8, 8, 8, 8, 8, 8, 8, 8, 8, 8, 8, 8, 8, 8, 8, 8, 8, 8, 8, 8].append [8, 8, 8, 8, 8, 8, 8, 8, 8, 8, 8, 8, 8, 8, 8, 8, 8, 8, 8, 8, 8, 8, 8, 8, 8, 8, 8, 8, 8, 8, 8, 8, 8, 8, 8, 8, 8, 8, 8, 8, 8, 8, 8, 8, 8, 8, 8, 8, 8, 8, 8, 8, 8, 8, 8, 8, 8, 8, 8, 8, 8, 8, 8, 8])).toArray⟩ y.toNat).toNat : Int) := (tab_bl ⟨y.toNat, by omega⟩).symm
theorem bl_step {x : Int} (k c : Nat) (hc : 2 ^ k = c) (h : (c : Int) ≤ x) : bl x.toNat = k + bl (x / c).toNat := by
  obtain ⟨n, rfl⟩ : ∃ n : Nat, x = n := ⟨x.toNat, by omega⟩
  rw [Int.toNat_natCast, bl_div n k (by omega), hc, ← Int.natCast_ediv, Int.toNat_natCast]
theorem bl32 {x : Int} (h : 4294967296 ≤ x) : bl x.toNat = 32 + bl (x / 4294967296).toNat := bl_step 32 4294967296 (by decide) h
theorem bl16 {x : Int} (h : 65536 ≤ x) : bl x.toNat = 16 + bl (x / 65536).toNat := bl_step 16 65536 (by decide) h
theorem bl8 {x : Int} (h : 256 ≤ x) : bl x.toNat = 8 + bl (x / 256).toNat := bl_step 8 256 (by decide) h
theorem ok_conv_u8 {P : Program} {ρ : Operand → Option Value} {m : Mem} {d : Option Tmp} {t : TypeId} {pp : String} {af : Array Edge} {g : Option (Nat × Bool)} {src dst : TypeId} {x : Operand} {k' : IntKind} {b : UInt8} {d0 : TypeDesc} [Ty P src d0] [Ty P dst (.int k')] (hx : ρ x = some (.int .u8 (b.toNat : Int))) (h : k'.min ≤ 0 ∧ 255 ≤ k'.max) :
    OpOK P ⟨d, .convert src dst x, t, pp, af, g⟩ ρ m (.int k' (b.toNat : Int)) m := by
  have := b.toNat_lt
  exact ok_conv_in hx (by omega) (by omega)
set_option maxHeartbeats 1000000 in
theorem ac_len64 (x : Int) (hx : 0 ≤ x ∧ x < 18446744073709551616) : ACalls Tryz.prog 196 [.int .u64 x] [] (.int .i64 (bl x.toNat)) [] := by
  refine acalls_pure Tryz.func196 rfl rfl rfl ?_
  repeat' first | intro h1 | refine st (h := ok_conv_u8 rfl (by decide)) ?_ | refine st (h := ok_str_index rfl rfl (show 0 ≤ _ ∧ _ < ((256 : Nat) : Int) from ⟨by omega, by omega⟩)) ?_ | refine st (h := ok_shr_lit 4294967296 rfl rfl (by decide) (by decide)) ?_ | refine st (h := ok_shr_lit 65536 rfl rfl (by decide) (by decide)) ?_ | refine st (h := ok_shr_lit 256 rfl rfl (by decide) (by decide)) ?_ | refine st ?_ | refine stm ?_ | refine Ja ?_ | refine Jb ?_ | refine Jc ?_ | refine Jd ?_ | refine Je ?_ | refine Jf ?_ | refine Jg ?_ | refine Jh ?_ ?_ | refine Ji ?_ ?_ | refine Jj ?_ ?_ | refine run_nil ?_ | refine Jz ?_ | refine Jw ?_ | refine aw_block ?_ | refine Jq ?_ | refine Jr ?_ | refine Js ?_ | refine Jt ?_ | refine Ju ?_ ?_ | refine Jv ?_ ?_ | refine Jy ?_ | refine aw_exit ?_ | refine aw_ret ?_ | refine pp_ret ?_ | refine pp_normal ?_
  all_goals
    try rw [bl32 (x := x) (by assumption)]
    first | rw [bl16 (x := x / 4294967296) (by assumption)] | rw [bl16 (x := x) (by assumption)] | skip
    first | rw [bl8 (x := x / 4294967296 / 65536) (by assumption)] | rw [bl8 (x := x / 4294967296) (by assumption)] | rw [bl8 (x := x / 65536) (by assumption)] | rw [bl8 (x := x) (by assumption)] | skip
    rw [tab_bl' _ ⟨by omega, by omega⟩]
    simp only [retOf]
    congr 1
    generalize byteAt _ _ = B
    have hlt : B.toNat < 256 := B.toNat_lt
    rw [wrap64 (by omega)]
    try omega
theorem ac_len (x : Int) (hx : 0 ≤ x ∧ x < 18446744073709551616) : ACalls Tryz.prog 170 [.int .u64 x] [] (.int .i64 (bl x.toNat)) [] := by
  have h := ac_len64 x hx
  refine acalls_pure Tryz.func170 rfl rfl rfl ?_
  repeat' first | intro h1 | refine st ?_ | refine st_call (h) ?_ | refine stm ?_ | refine Ja ?_ | refine Jb ?_ | refine Jc ?_ | refine Jd ?_ | refine Je ?_ | refine Jf ?_ | refine Jg ?_ | refine Jh ?_ ?_ | refine Ji ?_ ?_ | refine Jj ?_ ?_ | refine run_nil ?_ | refine Jz ?_ | refine Jw ?_ | refine aw_block ?_ | refine Jq ?_ | refine Jr ?_ | refine Js ?_ | refine Jt ?_ | refine Ju ?_ ?_ | refine Jv ?_ ?_ | refine Jy ?_ | refine aw_exit ?_ | refine aw_ret ?_ | refine pp_ret ?_ | refine pp_normal ?_
  all_goals rfl
theorem bl_bd (x : Nat) (h : x < 9223372036854775808) : 0 ≤ bl x ∧ bl x ≤ 63 := by
  unfold bl
  split
  · omega
  · rename_i h0
    have : Nat.log2 x < 63 := (Nat.log2_lt h0).2 h
    omega
/-- The least width of a number. -/
def wdth (x : Int) : Int := if x < 0 then 0 else max 1 (bl x.toNat)
theorem ac_width (x : Int) (hx : -9223372036854775808 ≤ x ∧ x ≤ 9223372036854775807) : ACalls Tryz.prog 168 [.int .i64 x] [] (.int .i64 (wdth x)) [] := by
  by_cases h0 : x < 0
  · rw [wdth, if_pos h0]
    refine acalls_pure Tryz.func168 rfl rfl rfl ?_
    repeat' first | intro h1 | refine st ?_ | refine stm ?_ | refine Ja ?_ | refine Jb ?_ | refine Jc ?_ | refine Jd ?_ | refine Je ?_ | refine Jf ?_ | refine Jg ?_ | refine Jh ?_ ?_ | refine Ji ?_ ?_ | refine Jj ?_ ?_ | refine run_nil ?_ | refine Jz ?_ | refine Jw ?_ | refine aw_block ?_ | refine Jq ?_ | refine Jr ?_ | refine Js ?_ | refine Jt ?_ | refine Ju ?_ ?_ | refine Jv ?_ ?_ | refine Jy ?_ | refine aw_exit ?_ | refine aw_ret ?_ | refine pp_ret ?_ | refine pp_normal ?_
    all_goals first | rfl | (exfalso; omega)
  · rw [wdth, if_neg h0]
    have h := ac_len x (by omega)
    refine acalls_pure Tryz.func168 rfl rfl rfl ?_
    repeat' first | intro h1 | refine st ?_ | refine st_call (h) ?_ | refine stm ?_ | refine Ja ?_ | refine Jb ?_ | refine Jc ?_ | refine Jd ?_ | refine Je ?_ | refine Jf ?_ | refine Jg ?_ | refine Jh ?_ ?_ | refine Ji ?_ ?_ | refine Jj ?_ ?_ | refine run_nil ?_ | refine Jz ?_ | refine Jw ?_ | refine aw_block ?_ | refine Jq ?_ | refine Jr ?_ | refine Js ?_ | refine Jt ?_ | refine Ju ?_ ?_ | refine Jv ?_ ?_ | refine Jy ?_ | refine aw_exit ?_ | refine aw_ret ?_ | refine pp_ret ?_ | refine pp_normal ?_
    all_goals first | rfl | (exfalso; omega)
structure Wg where
  x : Int
  n : Int
theorem bl_half (x : Int) (h : 2 ≤ x) : bl x.toNat = 1 + bl (x / 2).toNat := bl_step 1 2 (by decide) h
theorem bl_low (x : Int) (h : 0 ≤ x ∧ x < 2) : max 1 (bl x.toNat) = 1 := by
  have : x.toNat = 0 ∨ x.toNat = 1 := by omega
  rcases this with h | h <;> rw [h] <;> decide
theorem bl_pos (x : Int) (h : 1 ≤ x) : 1 ≤ bl x.toNat := by
  unfold bl
  rw [if_neg (by omega)]
  omega
theorem ac_rwidth (x : Int) (hx : -9223372036854775808 ≤ x ∧ x ≤ 9223372036854775807) : ACalls Tryz.prog 172 [.int .i64 x] [] (.int .i64 (wdth x)) [] := by
  by_cases h0 : x < 0
  · rw [wdth, if_pos h0]
    refine acalls_pure Tryz.func172 rfl rfl rfl ?_
    repeat' first | intro h1 | refine st ?_ | refine stm ?_ | refine Ja ?_ | refine Jb ?_ | refine Jc ?_ | refine Jd ?_ | refine Je ?_ | refine Jf ?_ | refine Jg ?_ | refine Jh ?_ ?_ | refine Ji ?_ ?_ | refine Jj ?_ ?_ | refine run_nil ?_ | refine Jz ?_ | refine Jw ?_ | refine aw_block ?_ | refine Jq ?_ | refine Jr ?_ | refine Js ?_ | refine Jt ?_ | refine Ju ?_ ?_ | refine Jv ?_ ?_ | refine Jy ?_ | refine aw_exit ?_ | refine aw_ret ?_ | refine pp_ret ?_ | refine pp_normal ?_
    all_goals first | rfl | (exfalso; omega)
  · obtain ⟨v, hv⟩ : ∃ v, wdth x = v := ⟨_, rfl⟩
    have hv' : v = max 1 (bl x.toNat) := by rw [← hv, wdth, if_neg h0]
    have hb := bl_bd x.toNat (by omega)
    rw [hv]
    refine acalls_pure Tryz.func172 rfl rfl rfl ?_
    repeat' first | intro h1 | refine st ?_ | refine stm ?_ | refine Ja ?_ | refine Jb ?_ | refine Jc ?_ | refine Jd ?_ | refine Je ?_ | refine Jf ?_ | refine Jg ?_ | refine Jh ?_ ?_ | refine Ji ?_ ?_ | refine Jj ?_ ?_ | refine run_nil ?_ | refine Jz ?_ | refine Jw ?_ | refine aw_block ?_ | refine Jq ?_ | refine Jr ?_ | refine Js ?_ | refine Jt ?_ | refine Ju ?_ ?_ | refine Jv ?_ ?_ | refine Jy ?_ | refine aw_exit ?_ | refine aw_ret ?_ | refine pp_ret ?_ | refine pp_normal ?_
    refine aw_loopg
      (S := fun y : Wg => [(0, .int .i64 y.x), (3, .int .i64 y.n)])
      (B := fun _ : Wg => [])
      (R := fun y : Wg => 0 ≤ y.x ∧ y.x ≤ 9223372036854775807 ∧ 1 ≤ y.n ∧ y.n - 1 + max 1 (bl y.x.toNat) = v)
      (μ := fun y : Wg => y.x.toNat) ⟨x, 1⟩ (fitsD []) ⟨by dsimp only; omega, by dsimp only; omega, by dsimp only; omega, by dsimp only; omega⟩ ?_
    have hv63 : v ≤ 63 := by omega
    clear hv hv'
    rintro ⟨z, n⟩ ⟨g1, g2, g3, g4⟩
    dsimp only at *
    by_cases h2 : 2 ≤ z
    · have e1 := bl_half z h2
      have e2 := bl_pos (z / 2) (by omega)
      have e3 := bl_bd z.toNat (by omega)
      repeat' first | intro h1 | refine st ?_ | refine stm ?_ | refine Ja ?_ | refine Jb ?_ | refine Jc ?_ | refine Jd ?_ | refine Je ?_ | refine Jf ?_ | refine Jg ?_ | refine Jh ?_ ?_ | refine Ji ?_ ?_ | refine Jj ?_ ?_ | refine run_nil ?_ | refine Jz ?_ | refine Jw ?_ | refine aw_block ?_ | refine Jq ?_ | refine Jr ?_ | refine Js ?_ | refine Jt ?_ | refine Ju ?_ ?_ | refine Jv ?_ ?_ | refine Jy ?_ | refine aw_exit ?_ | refine aw_ret ?_ | refine pp_ret ?_ | refine pp_normal ?_
      refine Exists.intro ⟨_, _⟩ ⟨fitsD [], ⟨by dsimp only; omega, by dsimp only; omega, by dsimp only; omega, by dsimp only; omega⟩, by dsimp only; omega⟩
    · have e1 := bl_low z (by omega)
      repeat' first | intro h1 | refine st ?_ | refine stm ?_ | refine Ja ?_ | refine Jb ?_ | refine Jc ?_ | refine Jd ?_ | refine Je ?_ | refine Jf ?_ | refine Jg ?_ | refine Jh ?_ ?_ | refine Ji ?_ ?_ | refine Jj ?_ ?_ | refine run_nil ?_ | refine Jz ?_ | refine Jw ?_ | refine aw_block ?_ | refine Jq ?_ | refine Jr ?_ | refine Js ?_ | refine Jt ?_ | refine Ju ?_ ?_ | refine Jv ?_ ?_ | refine Jy ?_ | refine aw_exit ?_ | refine aw_ret ?_ | refine pp_ret ?_ | refine pp_normal ?_
      rw [show n = v by omega]
      rfl
theorem ac_limit (x : Int) : ACalls Tryz.prog 167 [.int .i64 x] [] (.bool (decide (1 ≤ x ∧ x ≤ 4095))) [] := by
  by_cases h0 : 1 ≤ x ∧ x ≤ 4095
  · rw [decide_eq_true h0]
    refine acalls_pure Tryz.func167 rfl rfl rfl ?_
    repeat' first | intro h1 | refine st ?_ | refine stm ?_ | refine Ja ?_ | refine Jb ?_ | refine Jc ?_ | refine Jd ?_ | refine Je ?_ | refine Jf ?_ | refine Jg ?_ | refine Jh ?_ ?_ | refine Ji ?_ ?_ | refine Jj ?_ ?_ | refine run_nil ?_ | refine Jz ?_ | refine Jw ?_ | refine aw_block ?_ | refine Jq ?_ | refine Jr ?_ | refine Js ?_ | refine Jt ?_ | refine Ju ?_ ?_ | refine Jv ?_ ?_ | refine Jy ?_ | refine aw_exit ?_ | refine aw_ret ?_ | refine pp_ret ?_ | refine pp_normal ?_
    all_goals first | rfl | (exfalso; omega) | (simp [retOf]; omega)
  · rw [decide_eq_false h0]
    refine acalls_pure Tryz.func167 rfl rfl rfl ?_
    repeat' first | intro h1 | refine st ?_ | refine stm ?_ | refine Ja ?_ | refine Jb ?_ | refine Jc ?_ | refine Jd ?_ | refine Je ?_ | refine Jf ?_ | refine Jg ?_ | refine Jh ?_ ?_ | refine Ji ?_ ?_ | refine Jj ?_ ?_ | refine run_nil ?_ | refine Jz ?_ | refine Jw ?_ | refine aw_block ?_ | refine Jq ?_ | refine Jr ?_ | refine Js ?_ | refine Jt ?_ | refine Ju ?_ ?_ | refine Jv ?_ ?_ | refine Jy ?_ | refine aw_exit ?_ | refine aw_ret ?_ | refine pp_ret ?_ | refine pp_normal ?_
    all_goals first | rfl | (exfalso; omega) | (simp [retOf]; omega)
/-- A writer behind a field: its bits, its error. -/
def fieldW (bs : List Int) (e : Int) (right fits : Bool) (w x : Int) : List Int × Int :=
  if e ≠ 0 then (bs, e) else if right = false then (bs, 1) else if fits = false then (bs, 2) else if bs.length + w > 524288 then (bs, 8) else (bs ++ bitsOf w.toNat x, 0)
def unsW (bs : List Int) (e w x : Int) : List Int × Int := fieldW bs e (decide (1 ≤ w ∧ w ≤ 63)) (decide (0 ≤ x ∧ x < 2 ^ w.toNat)) w x
def b8 (x : Int) : UInt8 := UInt8.ofNat (IntKind.u8.wrap x).toNat
theorem wrap8' (c : Int) : 0 ≤ IntKind.u8.wrap c ∧ IntKind.u8.wrap c ≤ 255 := by
  simp only [IntKind.wrap, IntKind.signed, IntKind.bits]
  constructor
  · simp; omega
  · simp; omega
theorem u8v_b8 (x : Int) : u8v (b8 x) = .int .u8 (IntKind.u8.wrap x) := by
  have h := wrap8' x
  simp only [u8v, b8]
  congr 1
  have : (UInt8.ofNat (IntKind.u8.wrap x).toNat).toNat = (IntKind.u8.wrap x).toNat := by
    rw [UInt8.toNat_ofNat']
    omega
  rw [this]
  omega
theorem pow_bd (w : Int) (h : 2 ≤ w ∧ w ≤ 63) : (1 : Int) ≤ 2 ^ (w - 1).toNat ∧ (2 : Int) ^ (w - 1).toNat ≤ 4611686018427387904 := by
  have h1 : (2 : Nat) ^ (w - 1).toNat ≤ 2 ^ 62 := Nat.pow_le_pow_right (by omega) (by omega)
  have h2 : 0 < (2 : Nat) ^ (w - 1).toNat := Nat.pos_of_ne_zero (by simp)
  have h3 : ((2 ^ (w - 1).toNat : Nat) : Int) = (2 : Int) ^ (w - 1).toNat := by push_cast; rfl
  omega
def flgW (bs : List Int) (e : Int) (b : Bool) : List Int × Int := fieldW bs e true true 1 (if b then 1 else 0)
theorem pkN_rng (bs : List Int) : ∀ k, ∀ z ∈ pkN bs k, 0 ≤ z ∧ z ≤ 255
  | 0, z, h => by simp [pkN] at h
  | k + 1, z, h => by
    have ih := pkN_rng bs k
    rw [pkN, pkS] at h
    rcases List.mem_or_eq_of_mem_set h with h | h
    · split at h
      · rcases List.mem_append.1 h with h | h
        · exact ih z h
        · simp at h; omega
      · exact ih z h
    · rw [h]
      exact wrap8' _
theorem bytes_u8 (Z : List Int) (h : ∀ z ∈ Z, 0 ≤ z ∧ z ≤ 255) : Z.map (Value.int .u8) = (Z.map b8).map u8v := by
  rw [List.map_map]
  apply List.map_congr_left
  intro z hz
  have := h z hz
  show Value.int .u8 z = u8v (b8 z)
  rw [u8v_b8, wrap_id (by simp [IntKind.min, IntKind.signed]; omega) (by simp [IntKind.max, IntKind.signed, IntKind.bits]; omega)]
def strBits (s : ByteArray) : Nat → List Int
  | 0 => []
  | i + 1 => strBits s i ++ bitsOf 8 (byteAt s i).toNat
theorem strBits_len (s i) : (strBits s i).length = 8 * i := by induction i with
  | zero => rfl
  | succ i ih => rw [strBits, List.length_append, ih, bitsOf_len]; omega
def txtW (bs : List Int) (e m : Int) (s : ByteArray) : List Int × Int :=
  if e ≠ 0 then (bs, e) else if ¬ (1 ≤ m ∧ m ≤ 4095) then (bs, 1) else if m < s.size ∨ bs.length + wdth m + 8 * s.size > 524288 then (bs, 8) else (bs ++ bitsOf (wdth m).toNat s.size ++ strBits s s.size, 0)
theorem wdth_bd (m : Int) (h : 0 ≤ m ∧ m ≤ 9223372036854775807) : 1 ≤ wdth m ∧ wdth m ≤ 63 := by
  have := bl_bd m.toNat (by omega)
  unfold wdth
  rw [if_neg (by omega)]
  omega
structure Qg where
  i : Int
  bs : List Int
  n : Nat
end Go.Proofs.YtdbcbclapipgdaaGreatDoor
