/- Digest: the reference's compression. -/
import Derived.Test.YtjofcjogbopkjaaGreatVL
import Derived.Test.YtjofcjogbopkjaaGreatD1
set_option linter.unusedVariables false
set_option linter.unusedSimpArgs false
namespace Go.Proofs.YtjofcjogbopkjaaGreat
open Go Av
set_option maxRecDepth 20000
theorem aw_cutc {P : Program} {nt n0 : Nat} {x y : Code} {Q : Exit → Slots → Mem → Prop} {σ : Slots} {m : Mem} (σ1 : Slots) (m1 : Mem) (hx : AW P nt n0 x (ThenA (Fits n0 σ1 m1) Q) σ m) (hy : AW P nt n0 y Q σ1 m1) : AW P nt n0 x (ThenA (AW P nt n0 y Q) Q) σ m :=
  hx.mono fun e σ' m' h => by
    cases e with
    | normal => exact aw_fits h hy
    | _ => exact h
def tbl : List Int := [0, 1, 2, 3, 4, 5, 6, 7, 8, 9, 10, 11, 12, 13, 14, 15, 14, 10, 4, 8, 9, 15, 13, 6, 1, 12, 0, 2, 11, 7, 5, 3, 11, 8, 12, 0, 5, 2, 15, 13, 10, 14, 3, 6, 7, 1, 9, 4, 7, 9, 3, 1, 13, 12, 11, 14, 2, 6, 5, 10, 4, 0, 15, 8, 9, 0, 5, 7, 2, 4, 10, 15, 14, 1, 11, 12, 6, 8, 3, 13, 2, 12, 6, 10, 0, 11, 8, 3, 4, 13, 7, 5, 15, 14, 1, 9, 12, 5, 1, 15, 14, 13, 4, 10, 0, 7, 6, 3, 9, 2, 8, 11, 13, 11, 7, 14, 12, 1, 3, 9, 5, 0, 15, 4, 8, 6, 2, 10, 6, 15, 14, 9, 11, 3, 0, 8, 12, 2, 13, 7, 1, 4, 10, 5, 10, 2, 8, 4, 7, 6, 1, 5, 15, 11, 9, 14, 3, 12, 13, 0]
theorem tbl_sg : ∀ r, r < 10 → ∀ j, j < 16 → tbl.getD (r * 16 + j) 0 = sg r j := by decide +kernel
set_option maxHeartbeats 4000000 in
theorem aw_rows : ACalls Tryz.prog 109 [] [] (.agg (tbl.map (Value.int .i64)).toArray) [] := by
  refine acalls_pure Tryz.func109 rfl rfl rfl ?_
  repeat' first | refine st ?_ | refine stm ?_ | refine run_nil ?_ | refine Jz ?_ | refine Jw ?_ | refine aw_ret ?_ | refine pp_ret ?_
  all_goals rfl
theorem x32_assoc (a b c : Int) : x32 (x32 a b) c = x32 a (x32 b c) := by
  have h : ∀ z : BitVec 32, BitVec.ofInt 32 (IntKind.u32.wrap (z.toNat : Int)) = z := fun z => by
    have hz := z.isLt
    rw [wrap_id (by simp [IntKind.min, IntKind.signed]) (by simp [IntKind.max, IntKind.signed, IntKind.bits]; omega)]
    simp
  show IntKind.u32.wrap (BitVec.ofInt 32 (IntKind.u32.wrap (BitVec.ofInt 32 a ^^^ BitVec.ofInt 32 b).toNat) ^^^ BitVec.ofInt 32 c).toNat = IntKind.u32.wrap (BitVec.ofInt 32 a ^^^ BitVec.ofInt 32 (IntKind.u32.wrap (BitVec.ofInt 32 b ^^^ BitVec.ofInt 32 c).toNat)).toNat
  rw [h, h, BitVec.xor_assoc]
theorem ord_take (i : Nat) (h : i < 8) : TakeR [.int .i64 0, .int .i64 4, .int .i64 8, .int .i64 12, .int .i64 1, .int .i64 5, .int .i64 9, .int .i64 13, .int .i64 2, .int .i64 6, .int .i64 10, .int .i64 14, .int .i64 3, .int .i64 7, .int .i64 11, .int .i64 15, .int .i64 0, .int .i64 5, .int .i64 10, .int .i64 15, .int .i64 1, .int .i64 6, .int .i64 11, .int .i64 12, .int .i64 2, .int .i64 7, .int .i64 8, .int .i64 13, .int .i64 3, .int .i64 4, .int .i64 9, .int .i64 14] (0 + (i : Int).toNat * 4) 4 [.int .i64 (ln i 0), .int .i64 (ln i 1), .int .i64 (ln i 2), .int .i64 (ln i 3)] := by
  rcases h8 i h with rfl | rfl | rfl | rfl | rfl | rfl | rfl | rfl
  all_goals repeat constructor
structure Rg where
  r : Int
  V : List Int
set_option maxHeartbeats 8000000 in
theorem aw_rcompress (p0 p1 p2 p3 p4 p5 p6 p7 m0 m1 m2 m3 m4 m5 m6 m7 m8 m9 m10 m11 m12 m13 m14 m15 t : Int) (last : Bool) (C : List Int) (hC : cmp [p0, p1, p2, p3, p4, p5, p6, p7] [m0, m1, m2, m3, m4, m5, m6, m7, m8, m9, m10, m11, m12, m13, m14, m15] t last = C) : ACalls Tryz.prog 101 [.agg #[.int .u32 p0, .int .u32 p1, .int .u32 p2, .int .u32 p3, .int .u32 p4, .int .u32 p5, .int .u32 p6, .int .u32 p7], .agg #[.int .u32 m0, .int .u32 m1, .int .u32 m2, .int .u32 m3, .int .u32 m4, .int .u32 m5, .int .u32 m6, .int .u32 m7, .int .u32 m8, .int .u32 m9, .int .u32 m10, .int .u32 m11, .int .u32 m12, .int .u32 m13, .int .u32 m14, .int .u32 m15], .int .u64 t, .bool last] [] (.agg #[.int .u32 (C.getD 0 0), .int .u32 (C.getD 1 0), .int .u32 (C.getD 2 0), .int .u32 (C.getD 3 0), .int .u32 (C.getD 4 0), .int .u32 (C.getD 5 0), .int .u32 (C.getD 6 0), .int .u32 (C.getD 7 0)]) [] := by
  refine acalls_pure Tryz.func101 rfl rfl rfl ?_
  repeat' first | refine st ?_ | refine st_call (aw_rinit) ?_ | refine stm ?_ | refine run_nil ?_ | refine Jz ?_ | refine Jw ?_ | refine aw_block ?_
  refine aw_loop_in ?_
  repeat' first | refine st ?_ | refine awl_round ?_ | refine stm ?_ | refine run_nil ?_ | refine Jz ?_ | refine Jw ?_ | refine aw_block ?_ | refine Jq ?_ | refine Jr ?_ | refine Jy ?_ | refine aw_exit ?_
  refine aw_cutc [(4, .pointer (some ⟨0, 0, none⟩)), (5, .pointer (some ⟨1, 0, none⟩)), (8, .pointer (some ⟨2, 0, none⟩)), (9, .pointer (some ⟨3, 0, none⟩))] [some ⟨[.int .u32 p0, .int .u32 p1, .int .u32 p2, .int .u32 p3, .int .u32 p4, .int .u32 p5, .int .u32 p6, .int .u32 p7], true, 1⟩, some ⟨[.int .u32 m0, .int .u32 m1, .int .u32 m2, .int .u32 m3, .int .u32 m4, .int .u32 m5, .int .u32 m6, .int .u32 m7, .int .u32 m8, .int .u32 m9, .int .u32 m10, .int .u32 m11, .int .u32 m12, .int .u32 m13, .int .u32 m14, .int .u32 m15], true, 1⟩, some ⟨[.int .u32 0, .int .u32 0, .int .u32 0, .int .u32 0, .int .u32 0, .int .u32 0, .int .u32 0, .int .u32 0], true, 1⟩, some ⟨(init16 [p0, p1, p2, p3, p4, p5, p6, p7] t last).map (Value.int .u32), true, 1⟩] ?_ ?_
  · cases last
    all_goals
      repeat' first | refine st ?_ | refine stm ?_ | refine run_nil ?_ | refine Jw ?_ | refine Jq ?_ | refine Jr ?_ | refine Jy ?_
    all_goals exact then_normal (fits [0, 1, 2, 3])
  repeat' first | refine st ?_ | refine st_call (aw_rows) ?_ | refine stm ?_ | refine run_nil ?_ | refine Jz ?_ | refine Jw ?_ | refine aw_block ?_
  refine aw_loopg
    (S := fun x : Rg => [(4, .pointer (some ⟨0, 0, none⟩)), (5, .pointer (some ⟨1, 0, none⟩)), (8, .pointer (some ⟨2, 0, none⟩)), (9, .pointer (some ⟨3, 0, none⟩)), (12, .pointer (some ⟨4, 0, none⟩)), (13, .pointer (some ⟨5, 0, none⟩)), (14, .int .i64 x.r)])
    (B := fun x : Rg => [some ⟨[.int .u32 p0, .int .u32 p1, .int .u32 p2, .int .u32 p3, .int .u32 p4, .int .u32 p5, .int .u32 p6, .int .u32 p7], true, 1⟩, some ⟨([m0, m1, m2, m3, m4, m5, m6, m7, m8, m9, m10, m11, m12, m13, m14, m15]).map (Value.int .u32), true, 1⟩, some ⟨[.int .u32 0, .int .u32 0, .int .u32 0, .int .u32 0, .int .u32 0, .int .u32 0, .int .u32 0, .int .u32 0], true, 1⟩, some ⟨x.V.map (Value.int .u32), true, 1⟩, some ⟨tbl.map (Value.int .i64), true, 1⟩, some ⟨[.int .i64 0, .int .i64 4, .int .i64 8, .int .i64 12, .int .i64 1, .int .i64 5, .int .i64 9, .int .i64 13, .int .i64 2, .int .i64 6, .int .i64 10, .int .i64 14, .int .i64 3, .int .i64 7, .int .i64 11, .int .i64 15, .int .i64 0, .int .i64 5, .int .i64 10, .int .i64 15, .int .i64 1, .int .i64 6, .int .i64 11, .int .i64 12, .int .i64 2, .int .i64 7, .int .i64 8, .int .i64 13, .int .i64 3, .int .i64 4, .int .i64 9, .int .i64 14], true, 1⟩])
    (R := fun x : Rg => 0 ≤ x.r ∧ x.r ≤ 10 ∧ x.V = rnd [m0, m1, m2, m3, m4, m5, m6, m7, m8, m9, m10, m11, m12, m13, m14, m15] x.r.toNat (init16 [p0, p1, p2, p3, p4, p5, p6, p7] t last))
    (μ := fun x : Rg => (10 - x.r).toNat) ⟨0, init16 [p0, p1, p2, p3, p4, p5, p6, p7] t last⟩ (fits [0, 1, 2, 3, 4, 5]) ⟨by dsimp only; omega, by dsimp only; omega, rfl⟩ ?_
  rintro ⟨r, V⟩ ⟨h1, h2, hV⟩
  dsimp only at *
  obtain ⟨r, rfl⟩ : ∃ n : Nat, r = n := ⟨r.toNat, by omega⟩
  rw [Int.toNat_natCast] at hV
  have hVl : V.length = 16 := by rw [hV, rnd_len]; rfl
  have htl : tbl.length = 160 := rfl
  have hml : List.length [m0, m1, m2, m3, m4, m5, m6, m7, m8, m9, m10, m11, m12, m13, m14, m15] = 16 := rfl
  by_cases hr : (r : Int) < 10
  · skip
    repeat' first | refine st ?_ | refine run_nil ?_ | refine Jz ?_ | refine Jw ?_ | refine aw_block ?_ | refine Js ?_ | refine Jy ?_
    refine aw_loopg
      (S := fun x : Rg => [(4, .pointer (some ⟨0, 0, none⟩)), (5, .pointer (some ⟨1, 0, none⟩)), (8, .pointer (some ⟨2, 0, none⟩)), (9, .pointer (some ⟨3, 0, none⟩)), (12, .pointer (some ⟨4, 0, none⟩)), (13, .pointer (some ⟨5, 0, none⟩)), (14, .int .i64 r), (15, .int .i64 x.r)])
      (B := fun x : Rg => [some ⟨[.int .u32 p0, .int .u32 p1, .int .u32 p2, .int .u32 p3, .int .u32 p4, .int .u32 p5, .int .u32 p6, .int .u32 p7], true, 1⟩, some ⟨([m0, m1, m2, m3, m4, m5, m6, m7, m8, m9, m10, m11, m12, m13, m14, m15]).map (Value.int .u32), true, 1⟩, some ⟨[.int .u32 0, .int .u32 0, .int .u32 0, .int .u32 0, .int .u32 0, .int .u32 0, .int .u32 0, .int .u32 0], true, 1⟩, some ⟨x.V.map (Value.int .u32), true, 1⟩, some ⟨tbl.map (Value.int .i64), true, 1⟩, some ⟨[.int .i64 0, .int .i64 4, .int .i64 8, .int .i64 12, .int .i64 1, .int .i64 5, .int .i64 9, .int .i64 13, .int .i64 2, .int .i64 6, .int .i64 10, .int .i64 14, .int .i64 3, .int .i64 7, .int .i64 11, .int .i64 15, .int .i64 0, .int .i64 5, .int .i64 10, .int .i64 15, .int .i64 1, .int .i64 6, .int .i64 11, .int .i64 12, .int .i64 2, .int .i64 7, .int .i64 8, .int .i64 13, .int .i64 3, .int .i64 4, .int .i64 9, .int .i64 14], true, 1⟩])
      (R := fun x : Rg => 0 ≤ x.r ∧ x.r ≤ 8 ∧ x.V = mixN [m0, m1, m2, m3, m4, m5, m6, m7, m8, m9, m10, m11, m12, m13, m14, m15] r x.r.toNat V)
      (μ := fun x : Rg => (8 - x.r).toNat) ⟨0, V⟩ (fits [0, 1, 2, 3, 4, 5]) ⟨by dsimp only; omega, by dsimp only; omega, rfl⟩ ?_
    rintro ⟨i, V1⟩ ⟨g1, g2, hV1⟩
    dsimp only at *
    obtain ⟨i, rfl⟩ : ∃ n : Nat, i = n := ⟨i.toNat, by omega⟩
    rw [Int.toNat_natCast] at hV1
    have hVl1 : V1.length = 16 := by rw [hV1, mixN_len, hVl]
    by_cases hi : (i : Int) < 8
    · have c0 := ln_bd i (by omega) 0 (by omega)
      have c1 := ln_bd i (by omega) 1 (by omega)
      have c2 := ln_bd i (by omega) 2 (by omega)
      have c3 := ln_bd i (by omega) 3 (by omega)
      have HT := ord_take i (by omega)
      have e1 : tbl.getD ((r : Int).toNat * 16 + (2 * (i : Int)).toNat) 0 = sg r (2 * i) := by rw [Int.toNat_natCast, show (2 * (i : Int)).toNat = 2 * i by omega]; exact tbl_sg r (by omega) _ (by omega)
      have e2 : tbl.getD ((r : Int).toNat * 16 + (2 * (i : Int) + 1).toNat) 0 = sg r (2 * i + 1) := by rw [Int.toNat_natCast, show (2 * (i : Int) + 1).toNat = 2 * i + 1 by omega]; exact tbl_sg r (by omega) _ (by omega)
      have b1 := sg_bd r (by omega) (2 * i) (by omega)
      have b2 := sg_bd r (by omega) (2 * i + 1) (by omega)
      rw [← e1] at b1
      rw [← e2] at b2
      repeat' first | refine st ?_ | refine st (h := ok_loadN rfl rfl rfl HT) ?_ | refine stm ?_ | refine run_nil ?_ | refine sd ?_ | refine sdl ?_ | refine sd_call (aw_rmix _ _ _ _ _ _) ?_ | refine sdm (n := 1) ?_ | refine sdb ?_ | refine rund_nil ?_ | refine Jz ?_ | refine Jw ?_ | refine J0 (id := 21) [0,1,3,7,0,16,48,112,0,256,768,1792,0,4096,12288,28672,65535,0,0,262144,131072,1966080,4063232,8257536,16646144,0,0,67108864,201326592,33554432,1040187392,2113929216,4261412864,8556380160,17179869183,0,68719476735] 36 ?_ | refine aw_block ?_ | refine Js ?_ | refine Jy ?_
      refine aw_loop_in ?_
      repeat' first | refine st ?_ | refine awl_round ?_ | refine run_nil ?_ | refine sd ?_ | refine sdl ?_ | refine sdb ?_ | refine rund_nil ?_ | refine Jz ?_ | refine Jw ?_ | refine J0 (id := 25) [0,1,3,0,8,24,63,127] 7 ?_ | refine aw_block ?_ | refine Jq ?_ | refine Jr ?_ | refine Jy ?_ | refine aw_exit ?_
      exact then_normal ⟨⟨_, _⟩, fits [0, 1, 2, 3, 4, 5], ⟨by dsimp only; omega, by dsimp only; omega, by
        dsimp only
        rw [show ((i : Int) + 1).toNat = i + 1 by omega, mixN, ← hV1]
        simp only [mixAt, ← e1, ← e2]⟩, by dsimp only; omega⟩


    · obtain rfl : i = 8 := by omega
      repeat' first | refine st ?_ | refine run_nil ?_ | refine Jz ?_ | refine Jw ?_ | refine Jr ?_ | refine aw_exit ?_
      exact then_normal ⟨⟨_, _⟩, fits [0, 1, 2, 3, 4, 5], ⟨by dsimp only; omega, by dsimp only; omega, by
        dsimp only
        rw [show ((r : Int) + 1).toNat = r + 1 by omega, hV1, rnd, ← hV]⟩, by dsimp only; omega⟩
  · obtain rfl : r = 10 := by omega
    repeat' first | refine st ?_ | refine run_nil ?_ | refine Jz ?_ | refine Jw ?_ | refine aw_block ?_ | refine Jr ?_ | refine aw_exit ?_
    refine aw_loopg
      (S := fun x : Rg => [(4, .pointer (some ⟨0, 0, none⟩)), (8, .pointer (some ⟨1, 0, none⟩)), (9, .pointer (some ⟨2, 0, none⟩)), (19, .int .i64 x.r)])
      (B := fun x : Rg => [some ⟨x.V.map (Value.int .u32), true, 1⟩, some ⟨[.int .u32 0, .int .u32 0, .int .u32 0, .int .u32 0, .int .u32 0, .int .u32 0, .int .u32 0, .int .u32 0], true, 1⟩, some ⟨V.map (Value.int .u32), true, 1⟩])
      (R := fun x : Rg => 0 ≤ x.r ∧ x.r ≤ 8 ∧ x.V = fold8 V x.r.toNat [p0, p1, p2, p3, p4, p5, p6, p7])
      (μ := fun x : Rg => (8 - x.r).toNat) ⟨0, [p0, p1, p2, p3, p4, p5, p6, p7]⟩ (fits [0, 2, 3]) ⟨by dsimp only; omega, by dsimp only; omega, rfl⟩ ?_
    rintro ⟨i, H⟩ ⟨g1, g2, hH⟩
    dsimp only at *
    obtain ⟨i, rfl⟩ : ∃ n : Nat, i = n := ⟨i.toNat, by omega⟩
    rw [Int.toNat_natCast] at hH
    have hHl : H.length = 8 := by rw [hH, fold8_len]; rfl
    by_cases hi : (i : Int) < 8
    · skip
      repeat' first | refine st ?_ | refine run_nil ?_ | refine sd ?_ | refine sdl ?_ | refine sdb ?_ | refine rund_nil ?_ | refine Jz ?_ | refine Jw ?_ | refine J0 (id := 29) [0,0,2,6,0,16,48,126,0,256,768,1792,4094,8191,16383] 14 ?_ | refine aw_block ?_ | refine Js ?_ | refine Jy ?_
      exact then_normal ⟨⟨_, _⟩, fits [0, 1, 2], ⟨by dsimp only; omega, by dsimp only; omega, by
        dsimp only
        rw [show ((i : Int) + 1).toNat = i + 1 by omega, fold8, ← hH, ← x32_assoc]
        rfl⟩, by dsimp only; omega⟩
    · obtain rfl : i = 8 := by omega
      obtain ⟨a0, a1, a2, a3, a4, a5, a6, a7, rfl⟩ := list8 hHl
      repeat' first | refine st ?_ | refine stm ?_ | refine run_nil ?_ | refine Jz ?_ | refine Jw ?_ | refine Jr ?_ | refine aw_exit ?_ | refine aw_ret ?_ | refine pp_ret ?_
      obtain rfl : C = [a0, a1, a2, a3, a4, a5, a6, a7] := by rw [hH, ← hC, cmp, hV]
      rfl

end Go.Proofs.YtjofcjogbopkjaaGreat
