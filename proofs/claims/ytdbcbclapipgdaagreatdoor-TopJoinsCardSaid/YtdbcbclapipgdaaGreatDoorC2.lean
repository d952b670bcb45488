/- Digest: the compression's walk. -/
import Derived.Test.YtdbcbclapipgdaaGreatDoorVO
import Derived.Test.YtdbcbclapipgdaaGreatDoorJ
import Derived.Test.YtdbcbclapipgdaaGreatDoorC1
set_option linter.unusedVariables false
set_option linter.unusedSimpArgs false
namespace Go.Proofs.YtdbcbclapipgdaaGreatDoor
open Go Av
set_option maxRecDepth 20000
theorem dg_sg : ∀ r, r < 10 → ∀ j, j < 16 → dgI (byteAt (scheds.getD r .empty) j).toNat = sg r j := by decide +kernel
theorem sch_len : ∀ r, r < 10 → (scheds.getD r .empty).size = 16 := by decide +kernel
theorem aw_dg1 (r i : Nat) (hr : r < 10) (hi : i < 8) : ACalls Tryz.prog 205 [.int .u8 (byteAt (scheds.getD r .empty) (2 * (i : Int)).toNat).toNat] [] (.int .i64 (sg r (2 * i))) [] := by
  have h := aw_digit (byteAt (scheds.getD r .empty) (2 * (i : Int)).toNat).toNat
  rwa [show (2 * (i : Int)).toNat = 2 * i by omega, dg_sg r hr (2 * i) (by omega)] at *
theorem aw_dg2 (r i : Nat) (hr : r < 10) (hi : i < 8) : ACalls Tryz.prog 205 [.int .u8 (byteAt (scheds.getD r .empty) (2 * (i : Int) + 1).toNat).toNat] [] (.int .i64 (sg r (2 * i + 1))) [] := by
  have h := aw_digit (byteAt (scheds.getD r .empty) (2 * (i : Int) + 1).toNat).toNat
  rwa [show (2 * (i : Int) + 1).toNat = 2 * i + 1 by omega, dg_sg r hr (2 * i + 1) (by omega)] at *
structure CgQ where
  r : Int
  V : List Int
set_option maxHeartbeats 8000000 in
theorem aw_compress (p0 p1 p2 p3 p4 p5 p6 p7 m0 m1 m2 m3 m4 m5 m6 m7 m8 m9 m10 m11 m12 m13 m14 m15 t : Int) (last : Bool) (C : List Int) (hC : cmp [p0, p1, p2, p3, p4, p5, p6, p7] [m0, m1, m2, m3, m4, m5, m6, m7, m8, m9, m10, m11, m12, m13, m14, m15] t last = C) : ACalls Tryz.prog 187 [.agg #[.int .u32 p0, .int .u32 p1, .int .u32 p2, .int .u32 p3, .int .u32 p4, .int .u32 p5, .int .u32 p6, .int .u32 p7], .agg #[.int .u32 m0, .int .u32 m1, .int .u32 m2, .int .u32 m3, .int .u32 m4, .int .u32 m5, .int .u32 m6, .int .u32 m7, .int .u32 m8, .int .u32 m9, .int .u32 m10, .int .u32 m11, .int .u32 m12, .int .u32 m13, .int .u32 m14, .int .u32 m15], .int .u64 t, .bool last] [] (.agg #[.int .u32 (C.getD 0 0), .int .u32 (C.getD 1 0), .int .u32 (C.getD 2 0), .int .u32 (C.getD 3 0), .int .u32 (C.getD 4 0), .int .u32 (C.getD 5 0), .int .u32 (C.getD 6 0), .int .u32 (C.getD 7 0)]) [] := by
  refine acalls_pure Tryz.func187 rfl rfl rfl ?_
  cases last
  all_goals
    repeat' first | refine st ?_ | refine st_call (aw_init) ?_ | refine stm ?_ | refine run_nil ?_ | refine sdl ?_ | refine sdb ?_ | refine rund_nil ?_ | refine Jz ?_ | refine Jw ?_ | refine J0 (id := 3) [0,0,3] 2 ?_ | refine J0 (id := 4) [0,0,3] 2 ?_ | refine aw_block ?_ | refine Jq ?_ | refine Jr ?_ | refine Jy ?_
  case' false =>
      refine aw_loopg
        (S := fun x : CgQ => [(4, .pointer (some ⟨0, 0, none⟩)), (5, .pointer (some ⟨1, 0, none⟩)), (8, .pointer (some ⟨2, 0, none⟩)), (9, .pointer (some ⟨3, 0, none⟩)), (44, .int .i64 x.r)])
        (B := fun x : CgQ => [some ⟨[.int .u32 p0, .int .u32 p1, .int .u32 p2, .int .u32 p3, .int .u32 p4, .int .u32 p5, .int .u32 p6, .int .u32 p7], true, 1⟩, some ⟨([m0, m1, m2, m3, m4, m5, m6, m7, m8, m9, m10, m11, m12, m13, m14, m15]).map (Value.int .u32), true, 1⟩, some ⟨[.int .u32 0, .int .u32 0, .int .u32 0, .int .u32 0, .int .u32 0, .int .u32 0, .int .u32 0, .int .u32 0], true, 1⟩, some ⟨x.V.map (Value.int .u32), true, 1⟩])
        (R := fun x : CgQ => 0 ≤ x.r ∧ x.r ≤ 10 ∧ x.V = rnd ([m0, m1, m2, m3, m4, m5, m6, m7, m8, m9, m10, m11, m12, m13, m14, m15]) x.r.toNat (init16 [p0, p1, p2, p3, p4, p5, p6, p7] t false))
        (μ := fun x : CgQ => (10 - x.r).toNat) ⟨0, init16 [p0, p1, p2, p3, p4, p5, p6, p7] t false⟩ (fits [0, 1, 2, 3]) ⟨by dsimp only; omega, by dsimp only; omega, rfl⟩ ?_
  case' true =>
      refine aw_loopg
        (S := fun x : CgQ => [(4, .pointer (some ⟨0, 0, none⟩)), (5, .pointer (some ⟨1, 0, none⟩)), (8, .pointer (some ⟨2, 0, none⟩)), (9, .pointer (some ⟨3, 0, none⟩)), (44, .int .i64 x.r)])
        (B := fun x : CgQ => [some ⟨[.int .u32 p0, .int .u32 p1, .int .u32 p2, .int .u32 p3, .int .u32 p4, .int .u32 p5, .int .u32 p6, .int .u32 p7], true, 1⟩, some ⟨([m0, m1, m2, m3, m4, m5, m6, m7, m8, m9, m10, m11, m12, m13, m14, m15]).map (Value.int .u32), true, 1⟩, some ⟨[.int .u32 0, .int .u32 0, .int .u32 0, .int .u32 0, .int .u32 0, .int .u32 0, .int .u32 0, .int .u32 0], true, 1⟩, some ⟨x.V.map (Value.int .u32), true, 1⟩])
        (R := fun x : CgQ => 0 ≤ x.r ∧ x.r ≤ 10 ∧ x.V = rnd ([m0, m1, m2, m3, m4, m5, m6, m7, m8, m9, m10, m11, m12, m13, m14, m15]) x.r.toNat (init16 [p0, p1, p2, p3, p4, p5, p6, p7] t true))
        (μ := fun x : CgQ => (10 - x.r).toNat) ⟨0, init16 [p0, p1, p2, p3, p4, p5, p6, p7] t true⟩ (fits [0, 1, 2, 3]) ⟨by dsimp only; omega, by dsimp only; omega, rfl⟩ ?_
  all_goals
    rintro ⟨r, V⟩ ⟨h1, h2, hV⟩
    dsimp only at *
    obtain ⟨r, rfl⟩ : ∃ n : Nat, r = n := ⟨r.toNat, by omega⟩
    rw [Int.toNat_natCast] at hV
    have hVl : V.length = 16 := by rw [hV, rnd_len]; rfl
    by_cases hr : (r : Int) < 10
    · have H1 := aw_sched r (by omega)
      repeat' first | refine st ?_ | refine st_call (H1) ?_ | refine run_nil ?_ | refine Jz ?_ | refine Jw ?_ | refine aw_block ?_ | refine Js ?_ | refine Jy ?_
      refine aw_loopg
        (S := fun x : CgQ => [(4, .pointer (some ⟨0, 0, none⟩)), (5, .pointer (some ⟨1, 0, none⟩)), (8, .pointer (some ⟨2, 0, none⟩)), (9, .pointer (some ⟨3, 0, none⟩)), (12, .string (scheds.getD r .empty)), (44, .int .i64 r), (49, .int .i64 x.r)])
        (B := fun x : CgQ => [some ⟨[.int .u32 p0, .int .u32 p1, .int .u32 p2, .int .u32 p3, .int .u32 p4, .int .u32 p5, .int .u32 p6, .int .u32 p7], true, 1⟩, some ⟨([m0, m1, m2, m3, m4, m5, m6, m7, m8, m9, m10, m11, m12, m13, m14, m15]).map (Value.int .u32), true, 1⟩, some ⟨[.int .u32 0, .int .u32 0, .int .u32 0, .int .u32 0, .int .u32 0, .int .u32 0, .int .u32 0, .int .u32 0], true, 1⟩, some ⟨x.V.map (Value.int .u32), true, 1⟩])
        (R := fun x : CgQ => 0 ≤ x.r ∧ x.r ≤ 8 ∧ x.V = mixN ([m0, m1, m2, m3, m4, m5, m6, m7, m8, m9, m10, m11, m12, m13, m14, m15]) r x.r.toNat V)
        (μ := fun x : CgQ => (8 - x.r).toNat) ⟨0, V⟩ (fits [0, 1, 2, 3]) ⟨by dsimp only; omega, by dsimp only; omega, rfl⟩ ?_
      rintro ⟨i, V1⟩ ⟨g1, g2, hV1⟩
      dsimp only at *
      obtain ⟨i, rfl⟩ : ∃ n : Nat, i = n := ⟨i.toNat, by omega⟩
      rw [Int.toNat_natCast] at hV1
      have hVl1 : V1.length = 16 := by rw [hV1, mixN_len, hVl]
      have hs := sch_len r (by omega)
      by_cases hi : (i : Int) < 8
      · have H1 := aw_lane i (by omega)
        have H2 := aw_dg1 r i (by omega) (by omega)
        have H3 := aw_dg2 r i (by omega) (by omega)
        have b1 := sg_bd r (by omega) (2 * i) (by omega)
        have b2 := sg_bd r (by omega) (2 * i + 1) (by omega)
        have c0 := ln_bd i (by omega) 0 (by omega)
        have c1 := ln_bd i (by omega) 1 (by omega)
        have c2 := ln_bd i (by omega) 2 (by omega)
        have c3 := ln_bd i (by omega) 3 (by omega)
        repeat' first | refine st ?_ | refine st_call (H1) ?_ | refine aw_loop_in ?_ | refine awl_round ?_ | refine stm ?_ | refine run_nil ?_ | refine sd ?_ | refine sdl ?_ | refine sd_call (H2) ?_ | refine sd_call (H3) ?_ | refine sd_call (aw_mix _ _ _ _ _ _) ?_ | refine sdm (n := 1) ?_ | refine sdb ?_ | refine rund_nil ?_ | refine Jz ?_ | refine Jw ?_ | refine J0 (id := 17) [0,1,3,7,0,16,48,112,0,256,768,1792,0,4096,12288,28672,65535,0,0,262144,917504,1966080,4063232,8257536,0,0,33554432,100663296,251658240,524156928,1061027840,2134769664,4294967295,0,17179869183] 34 ?_ | refine aw_block ?_ | refine Jq ?_ | refine Jr ?_ | refine Js ?_ | refine Jy ?_ | refine aw_exit ?_
        exact then_normal ⟨⟨_, _⟩, fits [0, 1, 2, 3], ⟨by dsimp only; omega, by dsimp only; omega, by
          dsimp only
          rw [show ((i : Int) + 1).toNat = i + 1 by omega, mixN, ← hV1]
          rfl⟩, by dsimp only; omega⟩
      · obtain rfl : i = 8 := by omega
        repeat' first | refine st ?_ | refine run_nil ?_ | refine Jz ?_ | refine Jw ?_ | refine Jr ?_ | refine aw_exit ?_
        exact then_normal ⟨⟨_, _⟩, fits [0, 1, 2, 3], ⟨by dsimp only; omega, by dsimp only; omega, by
          dsimp only
          rw [show ((r : Int) + 1).toNat = r + 1 by omega, hV1, rnd, ← hV]⟩, by dsimp only; omega⟩
    · skip
      repeat' first | refine st ?_ | refine run_nil ?_ | refine Jz ?_ | refine Jw ?_ | refine aw_block ?_ | refine Jt ?_ | refine aw_exit ?_
      obtain rfl : r = 10 := by omega
      refine aw_loopg
        (S := fun x : CgQ => [(4, .pointer (some ⟨0, 0, none⟩)), (8, .pointer (some ⟨1, 0, none⟩)), (9, .pointer (some ⟨2, 0, none⟩)), (100, .int .i64 x.r)])
        (B := fun x : CgQ => [some ⟨x.V.map (Value.int .u32), true, 1⟩, some ⟨[.int .u32 0, .int .u32 0, .int .u32 0, .int .u32 0, .int .u32 0, .int .u32 0, .int .u32 0, .int .u32 0], true, 1⟩, some ⟨V.map (Value.int .u32), true, 1⟩])
        (R := fun x : CgQ => 0 ≤ x.r ∧ x.r ≤ 8 ∧ x.V = fold8 V x.r.toNat [p0, p1, p2, p3, p4, p5, p6, p7])
        (μ := fun x : CgQ => (8 - x.r).toNat) ⟨0, [p0, p1, p2, p3, p4, p5, p6, p7]⟩ (fits [0, 2, 3]) ⟨by dsimp only; omega, by dsimp only; omega, rfl⟩ ?_
      rintro ⟨i, H⟩ ⟨g1, g2, hH⟩
      dsimp only at *
      obtain ⟨i, rfl⟩ : ∃ n : Nat, i = n := ⟨i.toNat, by omega⟩
      rw [Int.toNat_natCast] at hH
      have hHl : H.length = 8 := by rw [hH, fold8_len]; rfl
      by_cases hi : (i : Int) < 8
      · skip
        repeat' first | refine st ?_ | refine run_nil ?_ | refine sd ?_ | refine sdl ?_ | refine sdb ?_ | refine rund_nil ?_ | refine Jz ?_ | refine Jw ?_ | refine J0 (id := 28) [0,1,3,0,8,24,0,64,192,448,1016,2047,4095,8191] 13 ?_ | refine aw_block ?_ | refine Js ?_ | refine Jy ?_
        exact then_normal ⟨⟨_, _⟩, fits [0, 1, 2], ⟨by dsimp only; omega, by dsimp only; omega, by
          dsimp only
          rw [show ((i : Int) + 1).toNat = i + 1 by omega, fold8, ← hH]
          rfl⟩, by dsimp only; omega⟩
      · obtain rfl : i = 8 := by omega
        obtain ⟨a0, a1, a2, a3, a4, a5, a6, a7, rfl⟩ := list8 hHl
        repeat' first | refine st ?_ | refine stm ?_ | refine run_nil ?_ | refine Jz ?_ | refine Jw ?_ | refine Jr ?_ | refine aw_exit ?_ | refine aw_ret ?_ | refine pp_ret ?_
        obtain rfl : C = [a0, a1, a2, a3, a4, a5, a6, a7] := by rw [hH, ← hC, cmp, hV]
        rfl
end Go.Proofs.YtdbcbclapipgdaaGreatDoor
