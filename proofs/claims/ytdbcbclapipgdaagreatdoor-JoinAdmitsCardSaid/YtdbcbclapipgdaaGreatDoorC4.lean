/- Digest: the reference's compression; Digest: the state's digest; Digest: a state takes bytes in; Digest: a state begins; whole digests. -/
import Derived.Test.YtdbcbclapipgdaaGreatDoorVO
import Derived.Test.YtdbcbclapipgdaaGreatDoorJ
import Derived.Test.YtdbcbclapipgdaaGreatDoorC3
set_option linter.unusedVariables false
set_option linter.unusedSimpArgs false
namespace Go.Proofs.YtdbcbclapipgdaaGreatDoor
open Go Av
set_option maxRecDepth 20000
set_option maxHeartbeats 8000000 in
theorem aw_rcompress (p0 p1 p2 p3 p4 p5 p6 p7 m0 m1 m2 m3 m4 m5 m6 m7 m8 m9 m10 m11 m12 m13 m14 m15 t : Int) (last : Bool) (C : List Int) (hC : cmp [p0, p1, p2, p3, p4, p5, p6, p7] [m0, m1, m2, m3, m4, m5, m6, m7, m8, m9, m10, m11, m12, m13, m14, m15] t last = C) : ACalls Tryz.prog 191 [.agg #[.int .u32 p0, .int .u32 p1, .int .u32 p2, .int .u32 p3, .int .u32 p4, .int .u32 p5, .int .u32 p6, .int .u32 p7], .agg #[.int .u32 m0, .int .u32 m1, .int .u32 m2, .int .u32 m3, .int .u32 m4, .int .u32 m5, .int .u32 m6, .int .u32 m7, .int .u32 m8, .int .u32 m9, .int .u32 m10, .int .u32 m11, .int .u32 m12, .int .u32 m13, .int .u32 m14, .int .u32 m15], .int .u64 t, .bool last] [] (.agg #[.int .u32 (C.getD 0 0), .int .u32 (C.getD 1 0), .int .u32 (C.getD 2 0), .int .u32 (C.getD 3 0), .int .u32 (C.getD 4 0), .int .u32 (C.getD 5 0), .int .u32 (C.getD 6 0), .int .u32 (C.getD 7 0)]) [] := by
  refine acalls_pure Tryz.func191 rfl rfl rfl ?_
  repeat' first | intro h1 | refine st ?_ | refine st_call (aw_rinit) ?_ | refine stm ?_ | refine Ja ?_ | refine Jb ?_ | refine Jc ?_ | refine Jd ?_ | refine Je ?_ | refine Jf ?_ | refine Jg ?_ | refine Jh ?_ ?_ | refine Ji ?_ ?_ | refine Jj ?_ ?_ | refine run_nil ?_ | refine sd ?_ | refine sdl ?_ | refine sd_call (aw_rinit) ?_ | refine sdm (n := 1) ?_ | refine sdm ?_ | refine sdb ?_ | refine Jk ?_ | refine Jl ?_ | refine Jm ?_ | refine Jn ?_ ?_ | refine Jo ?_ ?_ | refine Jp ?_ ?_ | refine rund_nil ?_ | refine Jz ?_ | refine Jw ?_ | refine J0 (id := 21) [0,1,3,7,0,16,48,112,0,256,768,1792,0,4096,12288,28672,65535,0,0,262144,131072,1966080,4063232,8257536,16646144,0,0,67108864,201326592,33554432,1040187392,2113929216,4261412864,8556380160,17179869183,0,68719476735] 36 ?_ | refine J0 (id := 25) [0,1,3,0,8,24,63,127] 7 ?_ | refine J0 (id := 29) [0,0,2,6,0,16,48,126,0,256,768,1792,4094,8191,16383] 14 ?_ | refine aw_block ?_ | refine Jq ?_ | refine Jr ?_ | refine Js ?_ | refine Jt ?_ | refine Ju ?_ ?_ | refine Jv ?_ ?_ | refine Jy ?_ | refine aw_exit ?_ | refine aw_ret ?_ | refine pp_ret ?_ | refine pp_normal ?_
  refine aw_loop_in ?_
  repeat' first | intro h1 | refine st ?_ | refine awl_round ?_ | refine then_round ?_ | refine stm ?_ | refine Ja ?_ | refine Jb ?_ | refine Jc ?_ | refine Jd ?_ | refine Je ?_ | refine Jf ?_ | refine Jg ?_ | refine Jh ?_ ?_ | refine Ji ?_ ?_ | refine Jj ?_ ?_ | refine run_nil ?_ | refine sd ?_ | refine sdl ?_ | refine sdm (n := 1) ?_ | refine sdm ?_ | refine sdb ?_ | refine Jk ?_ | refine Jl ?_ | refine Jm ?_ | refine Jn ?_ ?_ | refine Jo ?_ ?_ | refine Jp ?_ ?_ | refine rund_nil ?_ | refine Jz ?_ | refine Jw ?_ | refine J0 (id := 21) [0,1,3,7,0,16,48,112,0,256,768,1792,0,4096,12288,28672,65535,0,0,262144,131072,1966080,4063232,8257536,16646144,0,0,67108864,201326592,33554432,1040187392,2113929216,4261412864,8556380160,17179869183,0,68719476735] 36 ?_ | refine J0 (id := 25) [0,1,3,0,8,24,63,127] 7 ?_ | refine J0 (id := 29) [0,0,2,6,0,16,48,126,0,256,768,1792,4094,8191,16383] 14 ?_ | refine aw_block ?_ | refine Jq ?_ | refine Jr ?_ | refine Js ?_ | refine Jt ?_ | refine Jy ?_ | refine aw_exit ?_ | refine aw_ret ?_ | refine pp_ret ?_ | refine pp_normal ?_
  refine aw_cutc [(4, .pointer (some ⟨0, 0, none⟩)), (5, .pointer (some ⟨1, 0, none⟩)), (8, .pointer (some ⟨2, 0, none⟩)), (9, .pointer (some ⟨3, 0, none⟩))] [some ⟨[.int .u32 p0, .int .u32 p1, .int .u32 p2, .int .u32 p3, .int .u32 p4, .int .u32 p5, .int .u32 p6, .int .u32 p7], true, 1⟩, some ⟨[.int .u32 m0, .int .u32 m1, .int .u32 m2, .int .u32 m3, .int .u32 m4, .int .u32 m5, .int .u32 m6, .int .u32 m7, .int .u32 m8, .int .u32 m9, .int .u32 m10, .int .u32 m11, .int .u32 m12, .int .u32 m13, .int .u32 m14, .int .u32 m15], true, 1⟩, some ⟨[.int .u32 0, .int .u32 0, .int .u32 0, .int .u32 0, .int .u32 0, .int .u32 0, .int .u32 0, .int .u32 0], true, 1⟩, some ⟨(init16 [p0, p1, p2, p3, p4, p5, p6, p7] t last).map (Value.int .u32), true, 1⟩] ?_ ?_
  · cases last
    all_goals
      repeat' first | intro h1 | refine st ?_ | refine stm ?_ | refine Ja ?_ | refine Jb ?_ | refine Jc ?_ | refine Jd ?_ | refine Je ?_ | refine Jf ?_ | refine Jg ?_ | refine Jh ?_ ?_ | refine Ji ?_ ?_ | refine Jj ?_ ?_ | refine run_nil ?_ | refine sd ?_ | refine sdl ?_ | refine sdm (n := 1) ?_ | refine sdm ?_ | refine sdb ?_ | refine Jk ?_ | refine Jl ?_ | refine Jm ?_ | refine Jn ?_ ?_ | refine Jo ?_ ?_ | refine Jp ?_ ?_ | refine rund_nil ?_ | refine Jz ?_ | refine Jw ?_ | refine J0 (id := 21) [0,1,3,7,0,16,48,112,0,256,768,1792,0,4096,12288,28672,65535,0,0,262144,131072,1966080,4063232,8257536,16646144,0,0,67108864,201326592,33554432,1040187392,2113929216,4261412864,8556380160,17179869183,0,68719476735] 36 ?_ | refine J0 (id := 25) [0,1,3,0,8,24,63,127] 7 ?_ | refine J0 (id := 29) [0,0,2,6,0,16,48,126,0,256,768,1792,4094,8191,16383] 14 ?_ | refine aw_block ?_ | refine Jq ?_ | refine Jr ?_ | refine Js ?_ | refine Jt ?_ | refine Ju ?_ ?_ | refine Jv ?_ ?_ | refine Jy ?_ | refine aw_exit ?_ | refine aw_ret ?_ | refine pp_ret ?_ | refine pp_normal ?_
    all_goals exact then_normal (fits [0, 1, 2, 3])
  repeat' first | intro h1 | refine st ?_ | refine st_call (aw_rows) ?_ | refine stm ?_ | refine Ja ?_ | refine Jb ?_ | refine Jc ?_ | refine Jd ?_ | refine Je ?_ | refine Jf ?_ | refine Jg ?_ | refine Jh ?_ ?_ | refine Ji ?_ ?_ | refine Jj ?_ ?_ | refine run_nil ?_ | refine sd ?_ | refine sdl ?_ | refine sd_call (aw_rows) ?_ | refine sdm (n := 1) ?_ | refine sdm ?_ | refine sdb ?_ | refine Jk ?_ | refine Jl ?_ | refine Jm ?_ | refine Jn ?_ ?_ | refine Jo ?_ ?_ | refine Jp ?_ ?_ | refine rund_nil ?_ | refine Jz ?_ | refine Jw ?_ | refine J0 (id := 21) [0,1,3,7,0,16,48,112,0,256,768,1792,0,4096,12288,28672,65535,0,0,262144,131072,1966080,4063232,8257536,16646144,0,0,67108864,201326592,33554432,1040187392,2113929216,4261412864,8556380160,17179869183,0,68719476735] 36 ?_ | refine J0 (id := 25) [0,1,3,0,8,24,63,127] 7 ?_ | refine J0 (id := 29) [0,0,2,6,0,16,48,126,0,256,768,1792,4094,8191,16383] 14 ?_ | refine aw_block ?_ | refine Jq ?_ | refine Jr ?_ | refine Js ?_ | refine Jt ?_ | refine Ju ?_ ?_ | refine Jv ?_ ?_ | refine Jy ?_ | refine aw_exit ?_ | refine aw_ret ?_ | refine pp_ret ?_ | refine pp_normal ?_
  refine aw_loopg
    (S := fun x : Rg => [(4, .pointer (some ⟨0, 0, none⟩)), (5, .pointer (some ⟨1, 0, none⟩)), (8, .pointer (some ⟨2, 0, none⟩)), (9, .pointer (some ⟨3, 0, none⟩)), (12, .pointer (some ⟨4, 0, none⟩)), (13, .pointer (some ⟨5, 0, none⟩)), (14, .int .i64 x.r)])
    (B := fun x : Rg => [some ⟨[.int .u32 p0, .int .u32 p1, .int .u32 p2, .int .u32 p3, .int .u32 p4, .int .u32 p5, .int .u32 p6, .int .u32 p7], true, 1⟩, some ⟨([m0, m1, m2, m3, m4, m5, m6, m7, m8, m9, m10, m11, m12, m13, m14, m15]).map (Value.int .u32), true, 1⟩, some ⟨[.int .u32 0, .int .u32 0, .int .u32 0, .int .u32 0, .int .u32 0, .int .u32 0, .int .u32 0, .int .u32 0], true, 1⟩, some ⟨x.V.map (Value.int .u32), true, 1⟩, some ⟨tbl.map (Value.int .i64), true, 1⟩, some ⟨[.int .i64 0, .int .i64 4, .int .i64 8, .int .i64 12, .int .i64 1, .int .i64 5, .int .i64 9, .int .i64 13, .int .i64 2, .int .i64 6, .int .i64 10, .int .i64 14, .int .i64 3, .int .i64 7, .int .i64 11, .int .i64 15, .int .i64 0, .int .i64 5, .int .i64 10, .int .i64 15, .int .i64 1, .int .i64 6, .int .i64 11, .int .i64 12, .int .i64 2, .int .i64 7, .int .i64 8, .int .i64 13, .int .i64 3, .int .i64 4, .int .i64 9, .int .i64 14], true, 1⟩])
    (R := fun x : Rg => 0 ≤ x.r ∧ x.r ≤ 10 ∧ x.V = rnd [m0, m1, m2, m3, m4, m5, m6, m7, m8, m9, m10, m11, m12, m13, m14, m15] x.r.toNat (init16 [p0, p1, p2, p3, p4, p5, p6, p7] t last))
    (μ := fun x : Rg => (10 - x.r).toNat) ⟨0, init16 [p0, p1, p2, p3, p4, p5, p6, p7] t last⟩ (fits [0, 1, 2, 3, 4, 5]) ⟨by dsimp only; omega, by dsimp only; omega, rfl⟩ ?_
  rintro ⟨r, V⟩ ⟨h1, h2, hV⟩
  dsimp only at *
  obtain ⟨r, rfl⟩ : ∃ n : Nat, r = n := ⟨r.toNat, by omega⟩
  rw [Int.toNat_natCast] at hV
  have hVl : V.length = 16 := by rw [hV, rnd_len]; rfl
  have htl : tbl.length = 160 := rfl
  have hml : List.length [m0, m1, m2, m3, m4, m5, m6, m7, m8, m9, m10, m11, m12, m13, m14, m15] = 16 := rfl
  by_cases hr : (r : Int) < 10
  · skip
    repeat' first | intro h1 | refine st ?_ | refine stm ?_ | refine Ja ?_ | refine Jb ?_ | refine Jc ?_ | refine Jd ?_ | refine Je ?_ | refine Jf ?_ | refine Jg ?_ | refine Jh ?_ ?_ | refine Ji ?_ ?_ | refine Jj ?_ ?_ | refine run_nil ?_ | refine sd ?_ | refine sdl ?_ | refine sdm (n := 1) ?_ | refine sdm ?_ | refine sdb ?_ | refine Jk ?_ | refine Jl ?_ | refine Jm ?_ | refine Jn ?_ ?_ | refine Jo ?_ ?_ | refine Jp ?_ ?_ | refine rund_nil ?_ | refine Jz ?_ | refine Jw ?_ | refine J0 (id := 21) [0,1,3,7,0,16,48,112,0,256,768,1792,0,4096,12288,28672,65535,0,0,262144,131072,1966080,4063232,8257536,16646144,0,0,67108864,201326592,33554432,1040187392,2113929216,4261412864,8556380160,17179869183,0,68719476735] 36 ?_ | refine J0 (id := 25) [0,1,3,0,8,24,63,127] 7 ?_ | refine J0 (id := 29) [0,0,2,6,0,16,48,126,0,256,768,1792,4094,8191,16383] 14 ?_ | refine aw_block ?_ | refine Jq ?_ | refine Jr ?_ | refine Js ?_ | refine Jt ?_ | refine Ju ?_ ?_ | refine Jv ?_ ?_ | refine Jy ?_ | refine aw_exit ?_ | refine aw_ret ?_ | refine pp_ret ?_ | refine pp_normal ?_
    refine aw_loopg
      (S := fun x : Rg => [(4, .pointer (some ⟨0, 0, none⟩)), (5, .pointer (some ⟨1, 0, none⟩)), (8, .pointer (some ⟨2, 0, none⟩)), (9, .pointer (some ⟨3, 0, none⟩)), (12, .pointer (some ⟨4, 0, none⟩)), (13, .pointer (some ⟨5, 0, none⟩)), (14, .int .i64 r), (15, .int .i64 x.r)])
      (B := fun x : Rg => [some ⟨[.int .u32 p0, .int .u32 p1, .int .u32 p2, .int .u32 p3, .int .u32 p4, .int .u32 p5, .int .u32 p6, .int .u32 p7], true, 1⟩, some ⟨([m0, m1, m2, m3, m4, m5, m6, m7, m8, m9, m10, m11, m12, m13, m14, m15]).map (Value.int .u32), true, 1⟩, some ⟨[.int .u32 0, .int .u32 0, .int .u32 0, .int .u32 0, .int .u32 0, .int .u32 0, .int .u32 0, .int .u32 0], true, 1⟩, some ⟨x.V.map (Value.int .u32), true, 1⟩, some ⟨tbl.map (Value.int .i64), true, 1⟩, some ⟨[.int .i64 0, .int .i64 4, .int .i64 8, .int .i64 12, .int .i64 1, .int .i64 5, .int .i64 9, .int .i64 13, .int .i64 2, .int .i64 6, .int .i64 10, .int .i64 14, .int .i64 3, .int .i64 7, .int .i64 11, .int .i64 15, .int .i64 0, .int .i64 5, .int .i64 10, .int .i64 15, .int .i64 1, .int .i64 6, .int .i64 11, .int .i64 12, .int .i64 2, .int .i64 7, .int .i64 8, .int .i64 13, .int .i64 3, .int .i64 4, .int .i64 9, .int .i64 14], true, 1⟩])
      (R := fun x : Rg => 0 ≤ x.r ∧ x.r ≤ 8 ∧ x.V = mixN [m0, m1, m2, m3, m4, m5, m6, m7, m8, m9, m10, m11, m12, m13, m14, m15] r x.r.toNat V)
      (μ := fun x : Rg => (8 - x.r).toNat) ⟨0, V⟩ (fits [0, 1, 2, 3, 4, 5]) ⟨by dsimp only; omega, by dsimp only; omega, rfl⟩ ?_
    rintro ⟨i, V1⟩ ⟨g1, g2, hV1⟩
    dsimp only at *
    obtain ⟨i, rfl⟩ : ∃ n : Nat, i = n := ⟨i.toNat, by omega⟩
    rw [Int.toNat_natCast] at hV1
    have hVl1 : V1.length = 16 := by rw [hV1, mixN_len, hVl]
    by_cases hi : (i : Int) < 8
    · have c0 := ln_bd i (by omega) 0 (by omega)
      have c1 := ln_bd i (by omega) 1 (by omega)
      have c2 := ln_bd i (by omega) 2 (by omega)
      have c3 := ln_bd i (by omega) 3 (by omega)
      have HT := ord_take i (by omega)
      have e1 : tbl.getD ((r : Int).toNat * 16 + (2 * (i : Int)).toNat) 0 = sg r (2 * i) := by rw [Int.toNat_natCast, show (2 * (i : Int)).toNat = 2 * i by omega]; exact tbl_sg r (by omega) _ (by omega)
      have e2 : tbl.getD ((r : Int).toNat * 16 + (2 * (i : Int) + 1).toNat) 0 = sg r (2 * i + 1) := by rw [Int.toNat_natCast, show (2 * (i : Int) + 1).toNat = 2 * i + 1 by omega]; exact tbl_sg r (by omega) _ (by omega)
      have b1 := sg_bd r (by omega) (2 * i) (by omega)
      have b2 := sg_bd r (by omega) (2 * i + 1) (by omega)
      rw [← e1] at b1
      rw [← e2] at b2
      repeat' first | intro h1 | refine st ?_ | refine st_call (aw_rmix _ _ _ _ _ _) ?_ | refine st (h := ok_loadN rfl rfl rfl HT) ?_ | refine stm ?_ | refine Ja ?_ | refine Jb ?_ | refine Jc ?_ | refine Jd ?_ | refine Je ?_ | refine Jf ?_ | refine Jg ?_ | refine Jh ?_ ?_ | refine Ji ?_ ?_ | refine Jj ?_ ?_ | refine run_nil ?_ | refine sd ?_ | refine sdl ?_ | refine sd_call (aw_rmix _ _ _ _ _ _) ?_ | refine sdm (n := 1) ?_ | refine sdm ?_ | refine sdb ?_ | refine Jk ?_ | refine Jl ?_ | refine Jm ?_ | refine Jn ?_ ?_ | refine Jo ?_ ?_ | refine Jp ?_ ?_ | refine rund_nil ?_ | refine Jz ?_ | refine Jw ?_ | refine J0 (id := 21) [0,1,3,7,0,16,48,112,0,256,768,1792,0,4096,12288,28672,65535,0,0,262144,131072,1966080,4063232,8257536,16646144,0,0,67108864,201326592,33554432,1040187392,2113929216,4261412864,8556380160,17179869183,0,68719476735] 36 ?_ | refine J0 (id := 25) [0,1,3,0,8,24,63,127] 7 ?_ | refine J0 (id := 29) [0,0,2,6,0,16,48,126,0,256,768,1792,4094,8191,16383] 14 ?_ | refine aw_block ?_ | refine Jq ?_ | refine Jr ?_ | refine Js ?_ | refine Jt ?_ | refine Ju ?_ ?_ | refine Jv ?_ ?_ | refine Jy ?_ | refine aw_exit ?_ | refine aw_ret ?_ | refine pp_ret ?_ | refine pp_normal ?_
      refine aw_loop_in ?_
      repeat' first | intro h1 | refine st ?_ | refine awl_round ?_ | refine then_round ?_ | refine stm ?_ | refine Ja ?_ | refine Jb ?_ | refine Jc ?_ | refine Jd ?_ | refine Je ?_ | refine Jf ?_ | refine Jg ?_ | refine Jh ?_ ?_ | refine Ji ?_ ?_ | refine Jj ?_ ?_ | refine run_nil ?_ | refine sd ?_ | refine sdl ?_ | refine sdm (n := 1) ?_ | refine sdm ?_ | refine sdb ?_ | refine Jk ?_ | refine Jl ?_ | refine Jm ?_ | refine Jn ?_ ?_ | refine Jo ?_ ?_ | refine Jp ?_ ?_ | refine rund_nil ?_ | refine Jz ?_ | refine Jw ?_ | refine J0 (id := 21) [0,1,3,7,0,16,48,112,0,256,768,1792,0,4096,12288,28672,65535,0,0,262144,131072,1966080,4063232,8257536,16646144,0,0,67108864,201326592,33554432,1040187392,2113929216,4261412864,8556380160,17179869183,0,68719476735] 36 ?_ | refine J0 (id := 25) [0,1,3,0,8,24,63,127] 7 ?_ | refine J0 (id := 29) [0,0,2,6,0,16,48,126,0,256,768,1792,4094,8191,16383] 14 ?_ | refine aw_block ?_ | refine Jq ?_ | refine Jr ?_ | refine Js ?_ | refine Jt ?_ | refine Ju ?_ ?_ | refine Jv ?_ ?_ | refine Jy ?_ | refine aw_exit ?_ | refine aw_ret ?_ | refine pp_ret ?_ | refine pp_normal ?_
      exact then_normal ⟨⟨_, _⟩, fits [0, 1, 2, 3, 4, 5], ⟨by dsimp only; omega, by dsimp only; omega, by
        dsimp only
        rw [show ((i : Int) + 1).toNat = i + 1 by omega, mixN, ← hV1]
        simp only [mixAt, ← e1, ← e2]⟩, by dsimp only; omega⟩


    · obtain rfl : i = 8 := by omega
      repeat' first | intro h1 | refine st ?_ | refine stm ?_ | refine Ja ?_ | refine Jb ?_ | refine Jc ?_ | refine Jd ?_ | refine Je ?_ | refine Jf ?_ | refine Jg ?_ | refine Jh ?_ ?_ | refine Ji ?_ ?_ | refine Jj ?_ ?_ | refine run_nil ?_ | refine sd ?_ | refine sdl ?_ | refine sdm (n := 1) ?_ | refine sdm ?_ | refine sdb ?_ | refine Jk ?_ | refine Jl ?_ | refine Jm ?_ | refine Jn ?_ ?_ | refine Jo ?_ ?_ | refine Jp ?_ ?_ | refine rund_nil ?_ | refine Jz ?_ | refine Jw ?_ | refine J0 (id := 21) [0,1,3,7,0,16,48,112,0,256,768,1792,0,4096,12288,28672,65535,0,0,262144,131072,1966080,4063232,8257536,16646144,0,0,67108864,201326592,33554432,1040187392,2113929216,4261412864,8556380160,17179869183,0,68719476735] 36 ?_ | refine J0 (id := 25) [0,1,3,0,8,24,63,127] 7 ?_ | refine J0 (id := 29) [0,0,2,6,0,16,48,126,0,256,768,1792,4094,8191,16383] 14 ?_ | refine aw_block ?_ | refine Jq ?_ | refine Jr ?_ | refine Js ?_ | refine Jt ?_ | refine Ju ?_ ?_ | refine Jv ?_ ?_ | refine Jy ?_ | refine aw_exit ?_ | refine aw_ret ?_ | refine pp_ret ?_ | refine pp_normal ?_
      exact then_normal ⟨⟨_, _⟩, fits [0, 1, 2, 3, 4, 5], ⟨by dsimp only; omega, by dsimp only; omega, by
        dsimp only
        rw [show ((r : Int) + 1).toNat = r + 1 by omega, hV1, rnd, ← hV]⟩, by dsimp only; omega⟩
  · obtain rfl : r = 10 := by omega
    repeat' first | intro h1 | refine st ?_ | refine stm ?_ | refine Ja ?_ | refine Jb ?_ | refine Jc ?_ | refine Jd ?_ | refine Je ?_ | refine Jf ?_ | refine Jg ?_ | refine Jh ?_ ?_ | refine Ji ?_ ?_ | refine Jj ?_ ?_ | refine run_nil ?_ | refine sd ?_ | refine sdl ?_ | refine sdm (n := 1) ?_ | refine sdm ?_ | refine sdb ?_ | refine Jk ?_ | refine Jl ?_ | refine Jm ?_ | refine Jn ?_ ?_ | refine Jo ?_ ?_ | refine Jp ?_ ?_ | refine rund_nil ?_ | refine Jz ?_ | refine Jw ?_ | refine J0 (id := 21) [0,1,3,7,0,16,48,112,0,256,768,1792,0,4096,12288,28672,65535,0,0,262144,131072,1966080,4063232,8257536,16646144,0,0,67108864,201326592,33554432,1040187392,2113929216,4261412864,8556380160,17179869183,0,68719476735] 36 ?_ | refine J0 (id := 25) [0,1,3,0,8,24,63,127] 7 ?_ | refine J0 (id := 29) [0,0,2,6,0,16,48,126,0,256,768,1792,4094,8191,16383] 14 ?_ | refine aw_block ?_ | refine Jq ?_ | refine Jr ?_ | refine Js ?_ | refine Jt ?_ | refine Ju ?_ ?_ | refine Jv ?_ ?_ | refine Jy ?_ | refine aw_exit ?_ | refine aw_ret ?_ | refine pp_ret ?_ | refine pp_normal ?_
    refine aw_loopg
      (S := fun x : Rg => [(4, .pointer (some ⟨0, 0, none⟩)), (8, .pointer (some ⟨1, 0, none⟩)), (9, .pointer (some ⟨2, 0, none⟩)), (19, .int .i64 x.r)])
      (B := fun x : Rg => [some ⟨x.V.map (Value.int .u32), true, 1⟩, some ⟨[.int .u32 0, .int .u32 0, .int .u32 0, .int .u32 0, .int .u32 0, .int .u32 0, .int .u32 0, .int .u32 0], true, 1⟩, some ⟨V.map (Value.int .u32), true, 1⟩])
      (R := fun x : Rg => 0 ≤ x.r ∧ x.r ≤ 8 ∧ x.V = fold8 V x.r.toNat [p0, p1, p2, p3, p4, p5, p6, p7])
      (μ := fun x : Rg => (8 - x.r).toNat) ⟨0, [p0, p1, p2, p3, p4, p5, p6, p7]⟩ (fits [0, 2, 3]) ⟨by dsimp only; omega, by dsimp only; omega, rfl⟩ ?_
    rintro ⟨i, H⟩ ⟨g1, g2, hH⟩
    dsimp only at *
    obtain ⟨i, rfl⟩ : ∃ n : Nat, i = n := ⟨i.toNat, by omega⟩
    rw [Int.toNat_natCast] at hH
    have hHl : H.length = 8 := by rw [hH, fold8_len]; rfl
    by_cases hi : (i : Int) < 8
    · skip
      repeat' first | intro h1 | refine st ?_ | refine stm ?_ | refine Ja ?_ | refine Jb ?_ | refine Jc ?_ | refine Jd ?_ | refine Je ?_ | refine Jf ?_ | refine Jg ?_ | refine Jh ?_ ?_ | refine Ji ?_ ?_ | refine Jj ?_ ?_ | refine run_nil ?_ | refine sd ?_ | refine sdl ?_ | refine sdm (n := 1) ?_ | refine sdm ?_ | refine sdb ?_ | refine Jk ?_ | refine Jl ?_ | refine Jm ?_ | refine Jn ?_ ?_ | refine Jo ?_ ?_ | refine Jp ?_ ?_ | refine rund_nil ?_ | refine Jz ?_ | refine Jw ?_ | refine J0 (id := 21) [0,1,3,7,0,16,48,112,0,256,768,1792,0,4096,12288,28672,65535,0,0,262144,131072,1966080,4063232,8257536,16646144,0,0,67108864,201326592,33554432,1040187392,2113929216,4261412864,8556380160,17179869183,0,68719476735] 36 ?_ | refine J0 (id := 25) [0,1,3,0,8,24,63,127] 7 ?_ | refine J0 (id := 29) [0,0,2,6,0,16,48,126,0,256,768,1792,4094,8191,16383] 14 ?_ | refine aw_block ?_ | refine Jq ?_ | refine Jr ?_ | refine Js ?_ | refine Jt ?_ | refine Ju ?_ ?_ | refine Jv ?_ ?_ | refine Jy ?_ | refine aw_exit ?_ | refine aw_ret ?_ | refine pp_ret ?_ | refine pp_normal ?_
      exact then_normal ⟨⟨_, _⟩, fits [0, 1, 2], ⟨by dsimp only; omega, by dsimp only; omega, by
        dsimp only
        rw [show ((i : Int) + 1).toNat = i + 1 by omega, fold8, ← hH, ← x32_assoc]
        rfl⟩, by dsimp only; omega⟩
    · obtain rfl : i = 8 := by omega
      obtain ⟨a0, a1, a2, a3, a4, a5, a6, a7, rfl⟩ := list8 hHl
      repeat' first | intro h1 | refine st ?_ | refine stm ?_ | refine Ja ?_ | refine Jb ?_ | refine Jc ?_ | refine Jd ?_ | refine Je ?_ | refine Jf ?_ | refine Jg ?_ | refine Jh ?_ ?_ | refine Ji ?_ ?_ | refine Jj ?_ ?_ | refine run_nil ?_ | refine sd ?_ | refine sdl ?_ | refine sdm (n := 1) ?_ | refine sdm ?_ | refine sdb ?_ | refine Jk ?_ | refine Jl ?_ | refine Jm ?_ | refine Jn ?_ ?_ | refine Jo ?_ ?_ | refine Jp ?_ ?_ | refine rund_nil ?_ | refine Jz ?_ | refine Jw ?_ | refine J0 (id := 21) [0,1,3,7,0,16,48,112,0,256,768,1792,0,4096,12288,28672,65535,0,0,262144,131072,1966080,4063232,8257536,16646144,0,0,67108864,201326592,33554432,1040187392,2113929216,4261412864,8556380160,17179869183,0,68719476735] 36 ?_ | refine J0 (id := 25) [0,1,3,0,8,24,63,127] 7 ?_ | refine J0 (id := 29) [0,0,2,6,0,16,48,126,0,256,768,1792,4094,8191,16383] 14 ?_ | refine aw_block ?_ | refine Jq ?_ | refine Jr ?_ | refine Js ?_ | refine Jt ?_ | refine Ju ?_ ?_ | refine Jv ?_ ?_ | refine Jy ?_ | refine aw_exit ?_ | refine aw_ret ?_ | refine pp_ret ?_ | refine pp_normal ?_
      obtain rfl : C = [a0, a1, a2, a3, a4, a5, a6, a7] := by rw [hH, ← hC, cmp, hV]
      rfl
def b8Q (x : Int) : UInt8 := UInt8.ofNat (IntKind.u8.wrap x).toNat
theorem u8v_b8Q (x : Int) : u8v (b8Q x) = .int .u8 (IntKind.u8.wrap x) := by
  have h := wrap8 x
  simp only [u8v, b8Q]
  congr 1
  have : (UInt8.ofNat (IntKind.u8.wrap x).toNat).toNat = (IntKind.u8.wrap x).toNat := by
    rw [UInt8.toNat_ofNat']
    omega
  rw [this]
  omega
def outB (C : List Int) : Nat → List UInt8
  | 0 => []
  | i + 1 => outB C i ++ [b8Q (C.getD i 0), b8Q (C.getD i 0 / 2 ^ (min (Int.toNat 8) IntKind.u32.bits)), b8Q (C.getD i 0 / 2 ^ (min (Int.toNat 16) IntKind.u32.bits)), b8Q (C.getD i 0 / 2 ^ (min (Int.toNat 24) IntKind.u32.bits))]
theorem list16_eq {W : List Int} (h : W.length = 16) : [(W.getD 0 0), (W.getD 1 0), (W.getD 2 0), (W.getD 3 0), (W.getD 4 0), (W.getD 5 0), (W.getD 6 0), (W.getD 7 0), (W.getD 8 0), (W.getD 9 0), (W.getD 10 0), (W.getD 11 0), (W.getD 12 0), (W.getD 13 0), (W.getD 14 0), (W.getD 15 0)] = W := by
  obtain ⟨a0, a1, a2, a3, a4, a5, a6, a7, b0, b1, b2, b3, b4, b5, b6, b7, rfl⟩ := list16 h
  rfl
set_option maxHeartbeats 4000000 in
theorem ac_sum1 (p0 p1 p2 p3 p4 p5 p6 p7 t : Int) (L : List UInt8) (n o : Nat) (ht : 0 ≤ t) (hn : n ≤ 64) (hL : o + n ≤ L.length) (hT : t + n ≤ 9223372036854775807) (C : List Int) (hC : cmp [p0, p1, p2, p3, p4, p5, p6, p7] (wd (fun j => (L.getD (o + j) 0).toNat) n) (t + n) true = C) :
    ACalls Tryz.prog 156 [.agg #[.int .u32 p0, .int .u32 p1, .int .u32 p2, .int .u32 p3, .int .u32 p4, .int .u32 p5, .int .u32 p6, .int .u32 p7, .slice (some ⟨0, o, none⟩) n n, .int .u64 t]] [some ⟨L.map u8v, false, 1⟩] (.string ⟨(outB C 8).toArray⟩) [none] := by
  obtain ⟨W, hW⟩ : ∃ W, wd (fun j => (L.getD (o + j) 0).toNat) n = W := ⟨_, rfl⟩
  have HW := ac_words L n o n hL hn W hW
  have hWl : W.length = 16 := by rw [← hW, wd_len]
  rw [hW, ← list16_eq hWl] at hC
  have hw : IntKind.u64.wrap (t + n) = t + n := wrap_id (by simp [IntKind.min, IntKind.signed]; omega) (by simp [IntKind.max, IntKind.signed, IntKind.bits]; omega)
  have HC := aw_compress p0 p1 p2 p3 p4 p5 p6 p7 (W.getD 0 0) (W.getD 1 0) (W.getD 2 0) (W.getD 3 0) (W.getD 4 0) (W.getD 5 0) (W.getD 6 0) (W.getD 7 0) (W.getD 8 0) (W.getD 9 0) (W.getD 10 0) (W.getD 11 0) (W.getD 12 0) (W.getD 13 0) (W.getD 14 0) (W.getD 15 0) (IntKind.u64.wrap (t + n)) true C (by rw [hw]; exact hC)
  refine acalls_law Tryz.func156 rfl rfl rfl ?_
  repeat' first | intro h1 | refine st (h := ok_bytes_str (l := outB C 8) rfl rfl (Nat.le_of_ble_eq_true rfl) (by simp only [outB, List.nil_append, List.cons_append, List.append_nil, List.map_cons, List.map_nil, u8v_b8Q]; rfl)) ?_ | refine st ?_ | refine st_call (HC) ?_ | refine sdR [0] HW ?_ | refine aw_loop_in ?_ | refine awl_round ?_ | refine then_round ?_ | refine stm ?_ | refine Ja ?_ | refine Jb ?_ | refine Jc ?_ | refine Jd ?_ | refine Je ?_ | refine Jf ?_ | refine Jg ?_ | refine Jh ?_ ?_ | refine Ji ?_ ?_ | refine Jj ?_ ?_ | refine run_nil ?_ | refine sd ?_ | refine sdl ?_ | refine sd_call (HC) ?_ | refine sdm (n := 1) ?_ | refine sdm ?_ | refine sdb ?_ | refine Jk ?_ | refine Jl ?_ | refine Jm ?_ | refine Jn ?_ ?_ | refine Jo ?_ ?_ | refine Jp ?_ ?_ | refine rund_nil ?_ | refine Jz ?_ | refine Jw ?_ | refine J0 (id := 2) [0,1,0,4,12,0,32,0,128,384,896,2016,4095,0] 14 ?_ | refine aw_block ?_ | refine Jq ?_ | refine Jr ?_ | refine Js ?_ | refine Jt ?_ | refine Ju ?_ ?_ | refine Jv ?_ ?_ | refine Jy ?_ | refine aw_exit ?_ | refine aw_ret ?_ | refine pp_ret ?_ | refine pp_normal ?_
  all_goals rfl
/-- The chain behind k blocks. -/
def ab (X : List UInt8) (t : Int) (C : List Int) : Nat → List Int
  | 0 => C
  | k + 1 => cmp (ab X t C k) (wd (fun j => (X.getD (64 * k + j) 0).toNat) 64) (t + 64 * (k + 1)) false
theorem cmp_len (H M t l) : (cmp H M t l).length = H.length := by simp [cmp, fold8_len]
theorem ab_len (X t C k) : (ab X t C k).length = C.length := by induction k with
  | zero => rfl
  | succ k ih => simp [ab, cmp_len, ih]
theorem list8_eq {C : List Int} (h : C.length = 8) : [C.getD 0 0, C.getD 1 0, C.getD 2 0, C.getD 3 0, C.getD 4 0, C.getD 5 0, C.getD 6 0, C.getD 7 0] = C := by
  obtain ⟨a0, a1, a2, a3, a4, a5, a6, a7, rfl⟩ := list8 h
  rfl
structure TgQ where
  k : Int
  o : Nat
  n : Nat
  t : Int
  c0 : Int
  c1 : Int
  c2 : Int
  c3 : Int
  c4 : Int
  c5 : Int
  c6 : Int
  c7 : Int
set_option maxHeartbeats 4000000 in
theorem ac_takeB (p0 p1 p2 p3 p4 p5 p6 p7 t : Int) (d : ByteArray) (L : List UInt8) (o n : Nat) (hL : o + n ≤ L.length) (X : List UInt8) (hX : X = (L.drop o).take n ++ d.data.toList) (h2 : X.length ≤ 1048576) (ht : 0 ≤ t) (hT : t ≤ 1099511627776) (K : Nat) (hK : K = (X.length - 1) / 64) :
    ACalls Tryz.prog 155 [.pointer (some ⟨0, 0, none⟩), .string d] [some ⟨[.int .u32 p0, .int .u32 p1, .int .u32 p2, .int .u32 p3, .int .u32 p4, .int .u32 p5, .int .u32 p6, .int .u32 p7, .slice (some ⟨1, o, none⟩) n n, .int .u64 t], true, 1⟩, some ⟨L.map u8v, true, 1⟩] (.tuple #[]) [some ⟨[.int .u32 ((ab X t [p0, p1, p2, p3, p4, p5, p6, p7] K).getD 0 0), .int .u32 ((ab X t [p0, p1, p2, p3, p4, p5, p6, p7] K).getD 1 0), .int .u32 ((ab X t [p0, p1, p2, p3, p4, p5, p6, p7] K).getD 2 0), .int .u32 ((ab X t [p0, p1, p2, p3, p4, p5, p6, p7] K).getD 3 0), .int .u32 ((ab X t [p0, p1, p2, p3, p4, p5, p6, p7] K).getD 4 0), .int .u32 ((ab X t [p0, p1, p2, p3, p4, p5, p6, p7] K).getD 5 0), .int .u32 ((ab X t [p0, p1, p2, p3, p4, p5, p6, p7] K).getD 6 0), .int .u32 ((ab X t [p0, p1, p2, p3, p4, p5, p6, p7] K).getD 7 0), .slice (some ⟨2, 64 * K, none⟩) (X.length - 64 * K) (X.length - 64 * K), .int .u64 (t + 64 * K)], true, 1⟩, none, some ⟨X.map u8v, true, 1⟩] := by
  have hds : d.data.toList.length = d.size := Array.length_toList (xs := d.data)
  have hXl : X.length = n + d.size := by rw [hX, List.length_append, hds, List.length_take, List.length_drop]; omega
  have hq : List.take (n * 1) (List.drop o (L.map u8v)) ++ d.data.toList.map u8v = X.map u8v := by rw [hX, Nat.mul_one, List.map_append, List.map_take, List.map_drop]
  refine acalls_of_aw Tryz.func155 rfl rfl ?_
  repeat' first | intro h1 | refine st ?_ | refine stm ?_ | refine Ja ?_ | refine Jb ?_ | refine Jc ?_ | refine Jd ?_ | refine Je ?_ | refine Jf ?_ | refine Jg ?_ | refine Jh ?_ ?_ | refine Ji ?_ ?_ | refine Jj ?_ ?_ | refine run_nil ?_ | refine sd ?_ | refine sdl ?_ | refine sdm (n := 1) ?_ | refine sdm ?_ | refine sdb ?_ | refine Jk ?_ | refine Jl ?_ | refine Jm ?_ | refine Jn ?_ ?_ | refine Jo ?_ ?_ | refine Jp ?_ ?_ | refine rund_nil ?_ | refine Jz ?_ | refine Jw ?_ | refine J0 (id := 3) [0,0,2,6,14,0,32,96,224,480,992,0,2048,6144,14336,32766,65535,131071,262143] 18 ?_ | refine aw_block ?_ | refine Jq ?_ | refine Jr ?_ | refine Js ?_ | refine Jt ?_ | refine Ju ?_ ?_ | refine Jv ?_ ?_ | refine Jy ?_ | refine aw_exit ?_ | refine aw_ret ?_ | refine pp_ret ?_ | refine pp_normal ?_
  rw [hq]
  refine aw_loopg
    (S := fun x : TgQ => [(0, .pointer (some ⟨0, 0, none⟩))])
    (B := fun x : TgQ => [some ⟨[.int .u32 x.c0, .int .u32 x.c1, .int .u32 x.c2, .int .u32 x.c3, .int .u32 x.c4, .int .u32 x.c5, .int .u32 x.c6, .int .u32 x.c7, .slice (some ⟨2, x.o, none⟩) x.n x.n, .int .u64 x.t], true, 1⟩, none, some ⟨X.map u8v, true, 1⟩])
    (R := fun x : TgQ => 0 ≤ x.k ∧ x.o = 64 * x.k.toNat ∧ x.o + x.n = X.length ∧ (0 < x.n ∨ X.length = 0) ∧ x.t = t + 64 * x.k ∧ [x.c0, x.c1, x.c2, x.c3, x.c4, x.c5, x.c6, x.c7] = ab X t [p0, p1, p2, p3, p4, p5, p6, p7] x.k.toNat)
    (μ := fun x : TgQ => x.n) ⟨0, 0, n + d.size, t, p0, p1, p2, p3, p4, p5, p6, p7⟩ (fits [0, 1, 2]) ⟨by dsimp only; omega, by dsimp only; omega, by dsimp only; omega, by dsimp only; omega, by dsimp only; omega, rfl⟩ ?_
  rintro ⟨k, o1, n1, t1, v0, v1, v2, v3, v4, v5, v6, v7⟩ ⟨g1, g2, g3, g4, g5, hC⟩
  dsimp only at *
  obtain ⟨k, rfl⟩ : ∃ n : Nat, k = n := ⟨k.toNat, by omega⟩
  rw [Int.toNat_natCast] at g2 hC
  by_cases hn1 : 64 < n1
  · obtain ⟨W, hW⟩ : ∃ W, wd (fun j => (X.getD (o1 + j) 0).toNat) 64 = W := ⟨_, rfl⟩
    have HW := ac_words X 64 o1 64 (by omega) (by omega) W hW
    have hWl : W.length = 16 := by rw [← hW, wd_len]
    have hw : IntKind.u64.wrap (t1 + 64) = t1 + 64 := wrap_id (by simp [IntKind.min, IntKind.signed]; omega) (by simp [IntKind.max, IntKind.signed, IntKind.bits]; omega)
    obtain ⟨C', hC'⟩ : ∃ C', cmp [v0, v1, v2, v3, v4, v5, v6, v7] [W.getD 0 0, W.getD 1 0, W.getD 2 0, W.getD 3 0, W.getD 4 0, W.getD 5 0, W.getD 6 0, W.getD 7 0, W.getD 8 0, W.getD 9 0, W.getD 10 0, W.getD 11 0, W.getD 12 0, W.getD 13 0, W.getD 14 0, W.getD 15 0] (IntKind.u64.wrap (t1 + 64)) false = C' := ⟨_, rfl⟩
    have HC := aw_compress v0 v1 v2 v3 v4 v5 v6 v7 (W.getD 0 0) (W.getD 1 0) (W.getD 2 0) (W.getD 3 0) (W.getD 4 0) (W.getD 5 0) (W.getD 6 0) (W.getD 7 0) (W.getD 8 0) (W.getD 9 0) (W.getD 10 0) (W.getD 11 0) (W.getD 12 0) (W.getD 13 0) (W.getD 14 0) (W.getD 15 0) (IntKind.u64.wrap (t1 + 64)) false C' hC'
    have hCl : C'.length = 8 := by rw [← hC', cmp_len]; rfl
    repeat' first | intro h1 | refine st ?_ | refine st_call (HC) ?_ | refine sdR [2] HW ?_ | refine stm ?_ | refine Ja ?_ | refine Jb ?_ | refine Jc ?_ | refine Jd ?_ | refine Je ?_ | refine Jf ?_ | refine Jg ?_ | refine Jh ?_ ?_ | refine Ji ?_ ?_ | refine Jj ?_ ?_ | refine run_nil ?_ | refine sd ?_ | refine sdl ?_ | refine sd_call (HC) ?_ | refine sdm (n := 1) ?_ | refine sdm ?_ | refine sdb ?_ | refine Jk ?_ | refine Jl ?_ | refine Jm ?_ | refine Jn ?_ ?_ | refine Jo ?_ ?_ | refine Jp ?_ ?_ | refine rund_nil ?_ | refine Jz ?_ | refine Jw ?_ | refine J0 (id := 3) [0,0,2,6,14,0,32,96,224,480,992,0,2048,6144,14336,32766,65535,131071,262143] 18 ?_ | refine aw_block ?_ | refine Jq ?_ | refine Jr ?_ | refine Js ?_ | refine Jt ?_ | refine Ju ?_ ?_ | refine Jv ?_ ?_ | refine Jy ?_ | refine aw_exit ?_ | refine aw_ret ?_ | refine pp_ret ?_ | refine pp_normal ?_
    refine Exists.intro ⟨k + 1, _, _, _, _, _, _, _, _, _, _, _⟩ ⟨fits [0, 1, 2], ⟨by dsimp only; omega, by dsimp only; omega, by dsimp only; omega, by dsimp only; omega, by dsimp only; exact hw.trans (by omega), ?_⟩, by dsimp only; omega⟩
    dsimp only
    rw [show ((k : Int) + 1).toNat = k + 1 by omega, ab, ← hC]
    refine (list8_eq hCl).trans ?_
    rw [← hC', list16_eq hWl, hw, ← hW, g2, g5, Int.mul_add, ← Int.add_assoc]
    rfl
  · obtain rfl : K = k := by omega
    repeat' first | intro h1 | refine st ?_ | refine stm ?_ | refine Ja ?_ | refine Jb ?_ | refine Jc ?_ | refine Jd ?_ | refine Je ?_ | refine Jf ?_ | refine Jg ?_ | refine Jh ?_ ?_ | refine Ji ?_ ?_ | refine Jj ?_ ?_ | refine run_nil ?_ | refine sd ?_ | refine sdl ?_ | refine sdm (n := 1) ?_ | refine sdm ?_ | refine sdb ?_ | refine Jk ?_ | refine Jl ?_ | refine Jm ?_ | refine Jn ?_ ?_ | refine Jo ?_ ?_ | refine Jp ?_ ?_ | refine rund_nil ?_ | refine Jz ?_ | refine Jw ?_ | refine J0 (id := 3) [0,0,2,6,14,0,32,96,224,480,992,0,2048,6144,14336,32766,65535,131071,262143] 18 ?_ | refine aw_block ?_ | refine Jq ?_ | refine Jr ?_ | refine Js ?_ | refine Jt ?_ | refine Ju ?_ ?_ | refine Jv ?_ ?_ | refine Jy ?_ | refine aw_exit ?_ | refine aw_ret ?_ | refine pp_ret ?_ | refine pp_normal ?_
    have e0 : n1 = X.length - 64 * K := by omega
    subst g2 g5 e0
    rw [← hC]
    exact pm_normal _ (renumA [0, 1, 2]) rfl
def iv0 (n : Int) : Int := x32 1779033703 (IntKind.u32.wrap (16842784 + IntKind.u32.wrap (256 * n)))
def ivk (n : Int) : List Int := [iv0 n, 3144134277, 1013904242, 2773480762, 1359893119, 2600822924, 528734635, 1541459225]
/-- The digest of bytes, of which the first 64 are a key's if n is its length. -/
def dig (n : Int) (X : List UInt8) : ByteArray :=
  ⟨(outB (cmp (ab X 0 (ivk n) ((X.length - 1) / 64)) (wd (fun j => ((X.getD (64 * ((X.length - 1) / 64) + j) 0).toNat : Int)) (X.length - 64 * ((X.length - 1) / 64))) X.length true) 8).toArray⟩
theorem bs0 {d : ByteArray} : d = ⟨#[]⟩ ↔ d.size = 0 := by
  obtain ⟨l⟩ := d
  constructor
  · rintro h; rw [h]; rfl
  · intro h
    have : l = #[] := Array.eq_empty_of_size_eq_zero h
    rw [this]
set_option maxHeartbeats 1000000 in
theorem ac_start0 (d : ByteArray) (n : Int) (h : d.size = n) (h0 : n = 0) : ACalls Tryz.prog 154 [.string d] [] (.agg #[.int .u32 (iv0 n), .int .u32 3144134277, .int .u32 1013904242, .int .u32 2773480762, .int .u32 1359893119, .int .u32 2600822924, .int .u32 528734635, .int .u32 1541459225, .slice (some ⟨0, 0, none⟩) 0 0, .int .u64 0]) [some ⟨[], true, 1⟩] := by
  refine acalls_of_aw Tryz.func154 rfl rfl ?_
  refine aw_ghost 1 rfl ?_
  repeat' first | intro h1 | refine st ?_ | refine st_call (aw_init) ?_ | refine stm ?_ | refine Ja ?_ | refine Jb ?_ | refine Jc ?_ | refine Jd ?_ | refine Je ?_ | refine Jf ?_ | refine Jg ?_ | refine Jh ?_ ?_ | refine Ji ?_ ?_ | refine Jj ?_ ?_ | refine run_nil ?_ | refine Jz ?_ | refine Jw ?_ | refine aw_block ?_ | refine Jq ?_ | refine Jr ?_ | refine Js ?_ | refine Jt ?_ | refine Ju ?_ ?_ | refine Jv ?_ ?_ | refine Jy ?_ | refine aw_exit ?_ | refine aw_ret ?_ | refine pp_ret ?_ | refine pp_normal ?_
  · exact absurd (bs0.2 (by omega)) h1
  · rw [h]
    refine pmw_ret _ (renumA [0]) ?_
    exact (Wk.aggL (by repeat (first | exact WkL.nil | (apply WkL.cons; (first | exact Wk.refl _ | exact Wk.nil)))))
def pad (d : List UInt8) : List UInt8 := d ++ List.replicate (64 - d.length) 0
theorem pad_len (d : List UInt8) (h : d.length ≤ 64) : (pad d).length = 64 := by simp [pad]; omega
set_option maxHeartbeats 1000000 in
theorem ac_startK (d : ByteArray) (n : Int) (h : d.size = n) (h0 : 0 < n ∧ n ≤ 32) (X : List UInt8) (hX : pad d.data.toList = X) : ACalls Tryz.prog 154 [.string d] [] (.agg #[.int .u32 (iv0 n), .int .u32 3144134277, .int .u32 1013904242, .int .u32 2773480762, .int .u32 1359893119, .int .u32 2600822924, .int .u32 528734635, .int .u32 1541459225, .slice (some ⟨0, 0, none⟩) 64 64, .int .u64 0]) [some ⟨X.map u8v, true, 1⟩] := by
  have hds : d.data.toList.length = d.size := Array.length_toList (xs := d.data)
  refine acalls_of_aw Tryz.func154 rfl rfl ?_
  repeat' first | intro h1 | refine st ?_ | refine st_call (aw_init) ?_ | refine stm ?_ | refine Ja ?_ | refine Jb ?_ | refine Jc ?_ | refine Jd ?_ | refine Je ?_ | refine Jf ?_ | refine Jg ?_ | refine Jh ?_ ?_ | refine Ji ?_ ?_ | refine Jj ?_ ?_ | refine run_nil ?_ | refine Jz ?_ | refine Jw ?_ | refine aw_block ?_ | refine Jq ?_ | refine Jr ?_ | refine Js ?_ | refine Jt ?_ | refine Ju ?_ ?_ | refine Jv ?_ ?_ | refine Jy ?_ | refine aw_exit ?_ | refine aw_ret ?_ | refine pp_ret ?_ | refine pp_normal ?_
  · have hq : List.map u8v d.data.toList ++ List.replicate (64 - d.size) (.int .u8 0) = X.map u8v := by rw [← hX, pad, List.map_append, List.map_replicate, hds]; rfl
    have e64 : d.size + (64 - d.size) = 64 := by omega
    refine run_step (ok_append_zeros (k := 64 - d.size) (cs := X.map u8v) (olds := d.data.toList.map u8v) rfl rfl rfl rfl rfl rfl rfl (by omega) (by omega) (by simp) (take_full (by simp)) hq (by omega) (by (repeat constructor))) (Nat.le_of_ble_eq_true rfl) ?_
    rw [e64]
    repeat' first | intro h1 | refine st ?_ | refine stm ?_ | refine Ja ?_ | refine Jb ?_ | refine Jc ?_ | refine Jd ?_ | refine Je ?_ | refine Jf ?_ | refine Jg ?_ | refine Jh ?_ ?_ | refine Ji ?_ ?_ | refine Jj ?_ ?_ | refine run_nil ?_ | refine Jz ?_ | refine Jw ?_ | refine aw_block ?_ | refine Jq ?_ | refine Jr ?_ | refine Js ?_ | refine Jt ?_ | refine Ju ?_ ?_ | refine Jv ?_ ?_ | refine Jy ?_ | refine aw_exit ?_ | refine aw_ret ?_ | refine pp_ret ?_ | refine pp_normal ?_
    rw [h]
    exact pm_ret _ (renumA [3]) rfl
  · exact absurd (bs0.1 (Decidable.not_not.1 h1)) (by omega)
/-- What is digested with a key. -/
def kx (k d : List UInt8) : List UInt8 := if k = [] then d else pad k ++ d
end Go.Proofs.YtdbcbclapipgdaaGreatDoor
