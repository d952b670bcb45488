/- Digest: the words' plain functions. Digest: the small functions' walks. Digest: the small functions' walks. Digest: a block's words. Digest: the compression's walk. -/
import Derived.Test.YtjofcjogbopkjaaGreatVL
import Derived.Test.YtjofcjogbopkjaaGreatVE
import Derived.Test.YtjofcjogbopkjaaGreatI
set_option linter.unusedVariables false
set_option linter.unusedSimpArgs false
namespace Go.Proofs.YtjofcjogbopkjaaGreat
open Go Av
theorem and31 (a : Int) : 0 ≤ bitv .and .u64 a 31 ∧ bitv .and .u64 a 31 ≤ 31 := by
  have h : (BitVec.ofInt 64 a &&& BitVec.ofInt 64 31).toNat ≤ 31 := by rw [BitVec.toNat_and]; exact Nat.and_le_right
  show 0 ≤ IntKind.u64.wrap ((BitVec.ofInt 64 a &&& BitVec.ofInt 64 31).toNat) ∧ IntKind.u64.wrap ((BitVec.ofInt 64 a &&& BitVec.ofInt 64 31).toNat) ≤ 31
  generalize (BitVec.ofInt 64 a &&& BitVec.ofInt 64 31).toNat = z at h
  rw [wrap_id (by simp [IntKind.min, IntKind.signed]) (by simp [IntKind.max, IntKind.signed, IntKind.bits]; omega)]
  omega
theorem w_assoc (a b x : Int) : IntKind.u32.wrap (IntKind.u32.wrap (a + b) + x) = IntKind.u32.wrap (a + IntKind.u32.wrap (b + x)) := by
  simp [IntKind.wrap, IntKind.signed, IntKind.bits]
  try omega
def w32 (a : Int) : Int := IntKind.u32.wrap a
def x32 (a b : Int) : Int := bitv .xor .u32 a b
def rot (x k : Int) : Int := bitv .or .u32 (IntKind.u32.wrap (x * 2 ^ (min (bitv .and .u64 (IntKind.u64.wrap k) 31).toNat 32))) (x / 2 ^ (min (IntKind.u64.wrap (32 - bitv .and .u64 (IntKind.u64.wrap k) 31)).toNat 32))
/-- Four words mixed with two. -/
def mix (a b c d x y : Int) : List Int :=
  let a1 := w32 (a + w32 (b + x))
  let d1 := rot (x32 d a1) (-16)
  let c1 := w32 (c + d1)
  let b1 := rot (x32 b c1) (-12)
  let a2 := w32 (a1 + w32 (b1 + y))
  let d2 := rot (x32 d1 a2) (-8)
  let c2 := w32 (c1 + d2)
  let b2 := rot (x32 b1 c2) (-7)
  [a2, b2, c2, d2]
def ivs : List Int := [1779033703, 3144134277, 1013904242, 2773480762, 1359893119, 2600822924, 528734635, 1541459225]
def lanes : List (List Int) := [[0, 4, 8, 12], [1, 5, 9, 13], [2, 6, 10, 14], [3, 7, 11, 15], [0, 5, 10, 15], [1, 6, 11, 12], [2, 7, 8, 13], [3, 4, 9, 14]]
def sgm : List (List Int) := [[0, 1, 2, 3, 4, 5, 6, 7, 8, 9, 10, 11, 12, 13, 14, 15], [14, 10, 4, 8, 9, 15, 13, 6, 1, 12, 0, 2, 11, 7, 5, 3], [11, 8, 12, 0, 5, 2, 15, 13, 10, 14, 3, 6, 7, 1, 9, 4],
  [7, 9, 3, 1, 13, 12, 11, 14, 2, 6, 5, 10, 4, 0, 15, 8], [9, 0, 5, 7, 2, 4, 10, 15, 14, 1, 11, 12, 6, 8, 3, 13], [2, 12, 6, 10, 0, 11, 8, 3, 4, 13, 7, 5, 15, 14, 1, 9], [12, 5, 1, 15, 14, 13, 4, 10, 0, 7, 6, 3, 9, 2, 8, 11],
  [13, 11, 7, 14, 12, 1, 3, 9, 5, 0, 15, 4, 8, 6, 2, 10], [6, 15, 14, 9, 11, 3, 0, 8, 12, 2, 13, 7, 1, 4, 10, 5], [10, 2, 8, 4, 7, 6, 1, 5, 15, 11, 9, 14, 3, 12, 13, 0]]
def ln (i j : Nat) : Int := (lanes.getD i []).getD j 0
def sg (r j : Nat) : Int := (sgm.getD r []).getD j 0
theorem ln_bd : ∀ i, i < 8 → ∀ j, j < 4 → 0 ≤ ln i j ∧ ln i j < 16 := by decide
theorem sg_bd : ∀ r, r < 10 → ∀ j, j < 16 → 0 ≤ sg r j ∧ sg r j < 16 := by decide
/-- One mixing of a round. -/
def mixAt (M : List Int) (r i : Nat) (V : List Int) : List Int :=
  let w := mix (V.getD (ln i 0).toNat 0) (V.getD (ln i 1).toNat 0) (V.getD (ln i 2).toNat 0) (V.getD (ln i 3).toNat 0) (M.getD (sg r (2 * i)).toNat 0) (M.getD (sg r (2 * i + 1)).toNat 0)
  (((V.set (ln i 0).toNat (w.getD 0 0)).set (ln i 1).toNat (w.getD 1 0)).set (ln i 2).toNat (w.getD 2 0)).set (ln i 3).toNat (w.getD 3 0)
def mixN (M : List Int) (r : Nat) : Nat → List Int → List Int
  | 0, V => V
  | i + 1, V => mixAt M r i (mixN M r i V)
def rnd (M : List Int) : Nat → List Int → List Int
  | 0, V => V
  | r + 1, V => mixN M r 8 (rnd M r V)
theorem mixAt_len (M r i V) : (mixAt M r i V).length = V.length := by simp [mixAt]
theorem mixN_len (M r i V) : (mixN M r i V).length = V.length := by induction i with
  | zero => rfl
  | succ i ih => simp [mixN, mixAt_len, ih]
theorem rnd_len (M r V) : (rnd M r V).length = V.length := by induction r with
  | zero => rfl
  | succ r ih => simp [rnd, mixN_len, ih]
def init16 (H : List Int) (t : Int) (last : Bool) : List Int :=
  [H.getD 0 0, H.getD 1 0, H.getD 2 0, H.getD 3 0, H.getD 4 0, H.getD 5 0, H.getD 6 0, H.getD 7 0, 1779033703, 3144134277, 1013904242, 2773480762,
    x32 1359893119 (w32 t), x32 2600822924 (w32 (t / 4294967296)), if last then x32 (if IntKind.u32.signed = true then -1 else IntKind.u32.max) 528734635 else 528734635, 1541459225]
def fold8 (V : List Int) : Nat → List Int → List Int
  | 0, H => H
  | i + 1, H => let H' := fold8 V i H; H'.set i (x32 (H'.getD i 0) (x32 (V.getD i 0) (V.getD (i + 8) 0)))
theorem fold8_len (V i H) : (fold8 V i H).length = H.length := by induction i with
  | zero => rfl
  | succ i ih => simp [fold8, ih]
theorem list8 {l : List Int} (h : l.length = 8) : ∃ a0 a1 a2 a3 a4 a5 a6 a7, l = [a0, a1, a2, a3, a4, a5, a6, a7] := by
  match l, h with
  | [a0, a1, a2, a3, a4, a5, a6, a7], _ => exact ⟨_, _, _, _, _, _, _, _, rfl⟩
theorem list16 {l : List Int} (h : l.length = 16) : ∃ a0 a1 a2 a3 a4 a5 a6 a7 b0 b1 b2 b3 b4 b5 b6 b7, l = [a0, a1, a2, a3, a4, a5, a6, a7, b0, b1, b2, b3, b4, b5, b6, b7] := by
  match l, h with
  | [a0, a1, a2, a3, a4, a5, a6, a7, b0, b1, b2, b3, b4, b5, b6, b7], _ => exact ⟨_, _, _, _, _, _, _, _, _, _, _, _, _, _, _, _, rfl⟩
def cmp (H M : List Int) (t : Int) (last : Bool) : List Int := fold8 (rnd M 10 (init16 H t last)) 8 H
def dgI (c : Int) : Int := if 97 ≤ c then IntKind.u8.wrap (c - 97) + 10 else IntKind.u8.wrap (c - 48)
theorem wrap8 (c : Int) : 0 ≤ IntKind.u8.wrap c ∧ IntKind.u8.wrap c ≤ 255 := by
  simp only [IntKind.wrap, IntKind.signed, IntKind.bits]
  constructor
  · simp; omega
  · simp; omega
theorem h8 (i : Nat) (h : i < 8) : i = 0 ∨ i = 1 ∨ i = 2 ∨ i = 3 ∨ i = 4 ∨ i = 5 ∨ i = 6 ∨ i = 7 := by omega
theorem h10 (i : Nat) (h : i < 10) : i = 0 ∨ i = 1 ∨ i = 2 ∨ i = 3 ∨ i = 4 ∨ i = 5 ∨ i = 6 ∨ i = 7 ∨ i = 8 ∨ i = 9 := by omega
def scheds : List ByteArray := [⟨#[48, 49, 50, 51, 52, 53, 54, 55, 56, 57, 97, 98, 99, 100, 101, 102]⟩, ⟨#[101, 97, 52, 56, 57, 102, 100, 54, 49, 99, 48, 50, 98, 55, 53, 51]⟩, ⟨#[98, 56, 99, 48, 53, 50, 102, 100, 97, 101, 51, 54, 55, 49, 57, 52]⟩, ⟨#[55, 57, 51, 49, 100, 99, 98, 101, 50, 54, 53, 97, 52, 48, 102, 56]⟩, ⟨#[57, 48, 53, 55, 50, 52, 97, 102, 101, 49, 98, 99, 54, 56, 51, 100]⟩, ⟨#[50, 99, 54, 97, 48, 98, 56, 51, 52, 100, 55, 53, 102, 101, 49, 57]⟩, ⟨#[99, 53, 49, 102, 101, 100, 52, 97, 48, 55, 54, 51, 57, 50, 56, 98]⟩, ⟨#[100, 98, 55, 101, 99, 49, 51, 57, 53, 48, 102, 52, 56, 54, 50, 97]⟩, ⟨#[54, 102, 101, 57, 98, 51, 48, 56, 99, 50, 100, 55, 49, 52, 97, 53]⟩, ⟨#[97, 50, 56, 52, 55, 54, 49, 53, 102, 98, 57, 101, 51, 99, 100, 48]⟩]
end Go.Proofs.YtjofcjogbopkjaaGreat
namespace Go.Proofs.YtjofcjogbopkjaaGreat
open Go Av
set_option maxRecDepth 20000
theorem aw_rot (x k : Int) : ACalls Tryz.prog 111 [.int .u32 x, .int .i64 k] [] (.int .u32 (rot x k)) [] := by
  have hb : ∀ a : Int, 0 ≤ bitv .and .u64 a 31 ∧ bitv .and .u64 a 31 ≤ 31 := and31
  have hb2 := hb (IntKind.u64.wrap k)
  have hb3 : 0 ≤ IntKind.u64.wrap (32 - bitv .and .u64 (IntKind.u64.wrap k) 31) := by rw [wrap_id (by simp [IntKind.min, IntKind.signed]; omega) (by simp [IntKind.max, IntKind.signed, IntKind.bits]; omega)]; omega
  refine acalls_pure Tryz.func111 rfl rfl rfl ?_
  repeat' first | refine st ?_ | refine run_nil ?_ | refine Jz ?_ | refine Jw ?_ | refine aw_ret ?_ | refine pp_ret ?_

  all_goals rfl
set_option maxHeartbeats 1000000 in
theorem aw_mix (a b c d x y : Int) : ACalls Tryz.prog 105 [.agg #[.int .u32 a, .int .u32 b, .int .u32 c, .int .u32 d], .int .u32 x, .int .u32 y] [] (.agg #[.int .u32 ((mix a b c d x y).getD 0 0), .int .u32 ((mix a b c d x y).getD 1 0), .int .u32 ((mix a b c d x y).getD 2 0), .int .u32 ((mix a b c d x y).getD 3 0)]) [] := by
  refine acalls_pure Tryz.func105 rfl rfl rfl ?_
  repeat' first | refine st ?_ | refine st_call (aw_rot _ _) ?_ | refine stm ?_ | refine run_nil ?_ | refine sd ?_ | refine sdl ?_ | refine rund_nil ?_ | refine Jz ?_ | refine Jw ?_ | refine J0 (id := 1) [0,1,0,4,0,16,0,64,3,271,831,2047] 12 ?_ | refine aw_ret ?_ | refine pp_ret ?_

  all_goals rfl
set_option maxHeartbeats 1000000 in
theorem aw_rmix (a b c d x y : Int) : ACalls Tryz.prog 110 [.agg #[.int .u32 a, .int .u32 b, .int .u32 c, .int .u32 d], .int .u32 x, .int .u32 y] [] (.agg #[.int .u32 ((mix a b c d x y).getD 0 0), .int .u32 ((mix a b c d x y).getD 1 0), .int .u32 ((mix a b c d x y).getD 2 0), .int .u32 ((mix a b c d x y).getD 3 0)]) [] := by
  refine acalls_pure Tryz.func110 rfl rfl rfl ?_
  repeat' first | refine st ?_ | refine st_call (aw_rot _ _) ?_ | refine stm ?_ | refine run_nil ?_ | refine sd ?_ | refine sdl ?_ | refine rund_nil ?_ | refine Jz ?_ | refine Jw ?_ | refine J0 (id := 1) [0,1,0,4,0,16,0,64,3,271,831,2047] 12 ?_ | refine aw_ret ?_ | refine pp_ret ?_

  all_goals (simp only [mix, w32, x32, List.getD_cons_zero, List.getD_cons_succ, w_assoc]; rfl)
end Go.Proofs.YtjofcjogbopkjaaGreat
namespace Go.Proofs.YtjofcjogbopkjaaGreat
open Go Av
set_option maxRecDepth 20000
theorem aw_digit (c : Int) : ACalls Tryz.prog 106 [.int .u8 c] [] (.int .i64 (dgI c)) [] := by
  have h1 := wrap8 (c - 97)
  have h2 := wrap8 (c - 48)
  refine acalls_pure Tryz.func106 rfl rfl rfl ?_
  repeat' first | intro h1 | refine st ?_ | refine run_nil ?_ | refine Jz ?_ | refine Jw ?_ | refine Ju ?_ ?_ | refine Jy ?_ | refine aw_ret ?_ | refine pp_ret ?_

  all_goals simp [retOf, dgI, *]
theorem aw_init : ACalls Tryz.prog 95 [] [] (.agg #[.int .u32 (ivs.getD 0 0), .int .u32 (ivs.getD 1 0), .int .u32 (ivs.getD 2 0), .int .u32 (ivs.getD 3 0), .int .u32 (ivs.getD 4 0), .int .u32 (ivs.getD 5 0), .int .u32 (ivs.getD 6 0), .int .u32 (ivs.getD 7 0)]) [] := by
  refine acalls_pure Tryz.func95 rfl rfl rfl ?_
  repeat' first | refine st ?_ | refine stm ?_ | refine run_nil ?_ | refine Jz ?_ | refine Jw ?_ | refine aw_ret ?_ | refine pp_ret ?_

  all_goals rfl
theorem aw_rinit : ACalls Tryz.prog 100 [] [] (.agg #[.int .u32 (ivs.getD 0 0), .int .u32 (ivs.getD 1 0), .int .u32 (ivs.getD 2 0), .int .u32 (ivs.getD 3 0), .int .u32 (ivs.getD 4 0), .int .u32 (ivs.getD 5 0), .int .u32 (ivs.getD 6 0), .int .u32 (ivs.getD 7 0)]) [] := by
  refine acalls_pure Tryz.func100 rfl rfl rfl ?_
  repeat' first | refine st ?_ | refine stm ?_ | refine run_nil ?_ | refine Jz ?_ | refine Jw ?_ | refine aw_ret ?_ | refine pp_ret ?_

  all_goals rfl
theorem aw_lane (i : Nat) (h : i < 8) : ACalls Tryz.prog 104 [.int .i64 i] [] (.agg #[.int .i64 (ln i 0), .int .i64 (ln i 1), .int .i64 (ln i 2), .int .i64 (ln i 3)]) [] := by
  rcases h8 i h with rfl | rfl | rfl | rfl | rfl | rfl | rfl | rfl
  all_goals
    refine acalls_pure Tryz.func104 rfl rfl rfl ?_
    repeat' first | refine st ?_ | refine stm ?_ | refine run_nil ?_ | refine Jz ?_ | refine Jw ?_ | refine aw_ret ?_ | refine pp_ret ?_

  all_goals rfl
theorem aw_sched (i : Nat) (h : i < 10) : ACalls Tryz.prog 103 [.int .i64 i] [] (.string (scheds.getD i .empty)) [] := by
  rcases h10 i h with rfl | rfl | rfl | rfl | rfl | rfl | rfl | rfl | rfl | rfl
  all_goals
    refine acalls_pure Tryz.func103 rfl rfl rfl ?_
    repeat' first | refine st ?_ | refine run_nil ?_ | refine Jz ?_ | refine Jw ?_ | refine aw_ret ?_ | refine pp_ret ?_

  all_goals rfl
end Go.Proofs.YtjofcjogbopkjaaGreat
namespace Go.Proofs.YtjofcjogbopkjaaGreat
open Go Av
set_option maxRecDepth 20000
def orb (w k : Int) (x : Int) : Int := bitv .or .u32 w (IntKind.u32.wrap (IntKind.u32.wrap x * 2 ^ (min (8 * (k % 4)).toNat IntKind.u32.bits)))
def wd (g : Nat → Int) : Nat → List Int
  | 0 => List.replicate 16 0
  | i + 1 => (wd g i).set (i / 4) (orb ((wd g i).getD (i / 4) 0) i (g i))
theorem wd_len (g n) : (wd g n).length = 16 := by induction n with
  | zero => rfl
  | succ i ih => simp [wd, ih]
structure Wg where
  r : Int
  V : List Int
set_option maxHeartbeats 4000000 in
theorem ac_words (L : List UInt8) (n o c : Nat) (hL : o + n ≤ L.length) (hn : n ≤ 64) (C : List Int) (hC : wd (fun j => (L.getD (o + j) 0).toNat) n = C) : ACalls Tryz.prog 97 [.slice (some ⟨0, o, none⟩) n c] [some ⟨L.map u8v, false, 1⟩] (.agg #[.int .u32 (C.getD 0 0), .int .u32 (C.getD 1 0), .int .u32 (C.getD 2 0), .int .u32 (C.getD 3 0), .int .u32 (C.getD 4 0), .int .u32 (C.getD 5 0), .int .u32 (C.getD 6 0), .int .u32 (C.getD 7 0), .int .u32 (C.getD 8 0), .int .u32 (C.getD 9 0), .int .u32 (C.getD 10 0), .int .u32 (C.getD 11 0), .int .u32 (C.getD 12 0), .int .u32 (C.getD 13 0), .int .u32 (C.getD 14 0), .int .u32 (C.getD 15 0)]) [none] := by
  refine acalls_law Tryz.func97 rfl rfl rfl ?_
  repeat' first | intro h1 | refine st ?_ | refine stm ?_ | refine Ja ?_ | refine Jb ?_ | refine Jc ?_ | refine Jd ?_ | refine Je ?_ | refine Jf ?_ | refine Jg ?_ | refine Jh ?_ ?_ | refine Ji ?_ ?_ | refine Jj ?_ ?_ | refine run_nil ?_ | refine sd ?_ | refine sdl ?_ | refine sdm (n := 1) ?_ | refine sdm ?_ | refine sdb ?_ | refine Jk ?_ | refine Jl ?_ | refine Jm ?_ | refine Jn ?_ ?_ | refine Jo ?_ ?_ | refine Jp ?_ ?_ | refine rund_nil ?_ | refine Jz ?_ | refine Jw ?_ | refine J0 (id := 5) [0,1,3,7,0,16,0,64,192,496,1023,2047,4095] 12 ?_ | refine aw_block ?_ | refine Jq ?_ | refine Jr ?_ | refine Js ?_ | refine Jt ?_ | refine Ju ?_ ?_ | refine Jv ?_ ?_ | refine Jy ?_ | refine aw_exit ?_ | refine aw_ret ?_ | refine pp_ret ?_ | refine pp_normal ?_

  refine aw_loopg
    (S := fun x : Wg => [(2, .pointer (some ⟨1, 0, none⟩)), (3, .pointer (some ⟨2, 0, none⟩)), (6, .slice (some ⟨0, o, none⟩) n c), (7, .int .i64 n), (8, .int .i64 x.r)])
    (B := fun x : Wg => [some ⟨L.map u8v, false, 1⟩, some ⟨[.int .u32 0, .int .u32 0, .int .u32 0, .int .u32 0, .int .u32 0, .int .u32 0, .int .u32 0, .int .u32 0, .int .u32 0, .int .u32 0, .int .u32 0, .int .u32 0, .int .u32 0, .int .u32 0, .int .u32 0, .int .u32 0], true, 1⟩, some ⟨x.V.map (Value.int .u32), true, 1⟩])
    (R := fun x : Wg => 0 ≤ x.r ∧ x.r ≤ n ∧ x.V = wd (fun j => (L.getD (o + j) 0).toNat) x.r.toNat)
    (μ := fun x : Wg => (n - x.r).toNat) ⟨0, List.replicate 16 0⟩ (fits [0, 1, 2]) ⟨by dsimp only; omega, by dsimp only; omega, rfl⟩ ?_
  rintro ⟨r, V⟩ ⟨h1, h2, hV⟩
  dsimp only at *
  obtain ⟨r, rfl⟩ : ∃ n : Nat, r = n := ⟨r.toNat, by omega⟩
  rw [Int.toNat_natCast] at hV
  have hVl : V.length = 16 := by rw [hV, wd_len]
  have hq : (r : Int).tdiv 4 = (r / 4 : Nat) := Int.ofNat_tdiv r 4
  have hq2 : (r : Int).tmod 4 = (r : Int) % 4 := Int.tmod_eq_emod_of_nonneg (by omega)
  by_cases hr : (r : Int) < n
  · skip
    repeat' first | intro h1 | refine st ?_ | refine stm ?_ | refine Ja ?_ | refine Jb ?_ | refine Jc ?_ | refine Jd ?_ | refine Je ?_ | refine Jf ?_ | refine Jg ?_ | refine Jh ?_ ?_ | refine Ji ?_ ?_ | refine Jj ?_ ?_ | refine run_nil ?_ | refine sd ?_ | refine sdl ?_ | refine sdm (n := 1) ?_ | refine sdm ?_ | refine sdb ?_ | refine Jk ?_ | refine Jl ?_ | refine Jm ?_ | refine Jn ?_ ?_ | refine Jo ?_ ?_ | refine Jp ?_ ?_ | refine rund_nil ?_ | refine Jz ?_ | refine Jw ?_ | refine J0 (id := 5) [0,1,3,7,0,16,0,64,192,496,1023,2047,4095] 12 ?_ | refine aw_block ?_ | refine Jq ?_ | refine Jr ?_ | refine Js ?_ | refine Jt ?_ | refine Ju ?_ ?_ | refine Jv ?_ ?_ | refine Jy ?_ | refine aw_exit ?_ | refine aw_ret ?_ | refine pp_ret ?_ | refine pp_normal ?_

    exact then_normal ⟨⟨_, _⟩, fits [0, 1, 2], ⟨by dsimp only; omega, by dsimp only; omega, by
      dsimp only
      rw [show ((r : Int) + 1).toNat = r + 1 by omega, wd, ← hV]
      first | rfl | (rw [show ((r : Int) / 4).toNat = r / 4 by omega]; rfl)⟩, by dsimp only; omega⟩
  · obtain rfl : r = n := by omega
    obtain ⟨a0, a1, a2, a3, a4, a5, a6, a7, b0, b1, b2, b3, b4, b5, b6, b7, rfl⟩ := list16 hVl
    repeat' first | intro h1 | refine st ?_ | refine stm ?_ | refine Ja ?_ | refine Jb ?_ | refine Jc ?_ | refine Jd ?_ | refine Je ?_ | refine Jf ?_ | refine Jg ?_ | refine Jh ?_ ?_ | refine Ji ?_ ?_ | refine Jj ?_ ?_ | refine run_nil ?_ | refine sd ?_ | refine sdl ?_ | refine sdm (n := 1) ?_ | refine sdm ?_ | refine sdb ?_ | refine Jk ?_ | refine Jl ?_ | refine Jm ?_ | refine Jn ?_ ?_ | refine Jo ?_ ?_ | refine Jp ?_ ?_ | refine rund_nil ?_ | refine Jz ?_ | refine Jw ?_ | refine J0 (id := 5) [0,1,3,7,0,16,0,64,192,496,1023,2047,4095] 12 ?_ | refine aw_block ?_ | refine Jq ?_ | refine Jr ?_ | refine Js ?_ | refine Jt ?_ | refine Ju ?_ ?_ | refine Jv ?_ ?_ | refine Jy ?_ | refine aw_exit ?_ | refine aw_ret ?_ | refine pp_ret ?_ | refine pp_normal ?_

    obtain rfl := hV.trans hC
    rfl
set_option maxHeartbeats 4000000 in
theorem ac_block (s : ByteArray) (n : Nat) (hs : s.size = n) (hn : n ≤ 64) (C : List Int) (hC : wd (fun j => (byteAt s j).toNat) n = C) : ACalls Tryz.prog 102 [.string s] [] (.agg #[.int .u32 (C.getD 0 0), .int .u32 (C.getD 1 0), .int .u32 (C.getD 2 0), .int .u32 (C.getD 3 0), .int .u32 (C.getD 4 0), .int .u32 (C.getD 5 0), .int .u32 (C.getD 6 0), .int .u32 (C.getD 7 0), .int .u32 (C.getD 8 0), .int .u32 (C.getD 9 0), .int .u32 (C.getD 10 0), .int .u32 (C.getD 11 0), .int .u32 (C.getD 12 0), .int .u32 (C.getD 13 0), .int .u32 (C.getD 14 0), .int .u32 (C.getD 15 0)]) [] := by
  refine acalls_pure Tryz.func102 rfl rfl rfl ?_
  repeat' first | intro h1 | refine st ?_ | refine stm ?_ | refine Ja ?_ | refine Jb ?_ | refine Jc ?_ | refine Jd ?_ | refine Je ?_ | refine Jf ?_ | refine Jg ?_ | refine Jh ?_ ?_ | refine Ji ?_ ?_ | refine Jj ?_ ?_ | refine run_nil ?_ | refine sd ?_ | refine sdl ?_ | refine sdm (n := 1) ?_ | refine sdm ?_ | refine sdb ?_ | refine Jk ?_ | refine Jl ?_ | refine Jm ?_ | refine Jn ?_ ?_ | refine Jo ?_ ?_ | refine Jp ?_ ?_ | refine rund_nil ?_ | refine Jz ?_ | refine Jw ?_ | refine J0 (id := 5) [0,1,0,4,12,28,0,0,192,448,0,1024,3072,8128,16380,32767,65535] 16 ?_ | refine aw_block ?_ | refine Jq ?_ | refine Jr ?_ | refine Js ?_ | refine Jt ?_ | refine Ju ?_ ?_ | refine Jv ?_ ?_ | refine Jy ?_ | refine aw_exit ?_ | refine aw_ret ?_ | refine pp_ret ?_ | refine pp_normal ?_

  refine aw_loopg
    (S := fun x : Wg => [(0, .string s), (2, .pointer (some ⟨0, 0, none⟩)), (3, .pointer (some ⟨1, 0, none⟩)), (4, .int .i64 x.r)])
    (B := fun x : Wg => [some ⟨[.int .u32 0, .int .u32 0, .int .u32 0, .int .u32 0, .int .u32 0, .int .u32 0, .int .u32 0, .int .u32 0, .int .u32 0, .int .u32 0, .int .u32 0, .int .u32 0, .int .u32 0, .int .u32 0, .int .u32 0, .int .u32 0], true, 1⟩, some ⟨x.V.map (Value.int .u32), true, 1⟩])
    (R := fun x : Wg => 0 ≤ x.r ∧ x.r ≤ n ∧ x.V = wd (fun j => (byteAt s j).toNat) x.r.toNat)
    (μ := fun x : Wg => (n - x.r).toNat) ⟨0, List.replicate 16 0⟩ (fits [0, 1]) ⟨by dsimp only; omega, by dsimp only; omega, rfl⟩ ?_
  rintro ⟨r, V⟩ ⟨h1, h2, hV⟩
  dsimp only at *
  obtain ⟨r, rfl⟩ : ∃ n : Nat, r = n := ⟨r.toNat, by omega⟩
  rw [Int.toNat_natCast] at hV
  have hVl : V.length = 16 := by rw [hV, wd_len]
  have hq : (r : Int).tdiv 4 = (r / 4 : Nat) := Int.ofNat_tdiv r 4
  have hq2 : (r : Int).tmod 4 = (r : Int) % 4 := Int.tmod_eq_emod_of_nonneg (by omega)
  by_cases hr : (r : Int) < n
  · skip
    repeat' first | intro h1 | refine st ?_ | refine stm ?_ | refine Ja ?_ | refine Jb ?_ | refine Jc ?_ | refine Jd ?_ | refine Je ?_ | refine Jf ?_ | refine Jg ?_ | refine Jh ?_ ?_ | refine Ji ?_ ?_ | refine Jj ?_ ?_ | refine run_nil ?_ | refine sd ?_ | refine sdl ?_ | refine sdm (n := 1) ?_ | refine sdm ?_ | refine sdb ?_ | refine Jk ?_ | refine Jl ?_ | refine Jm ?_ | refine Jn ?_ ?_ | refine Jo ?_ ?_ | refine Jp ?_ ?_ | refine rund_nil ?_ | refine Jz ?_ | refine Jw ?_ | refine J0 (id := 5) [0,1,0,4,12,28,0,0,192,448,0,1024,3072,8128,16380,32767,65535] 16 ?_ | refine aw_block ?_ | refine Jq ?_ | refine Jr ?_ | refine Js ?_ | refine Jt ?_ | refine Ju ?_ ?_ | refine Jv ?_ ?_ | refine Jy ?_ | refine aw_exit ?_ | refine aw_ret ?_ | refine pp_ret ?_ | refine pp_normal ?_

    exact then_normal ⟨⟨_, _⟩, fits [0, 1], ⟨by dsimp only; omega, by dsimp only; omega, by
      dsimp only
      rw [show ((r : Int) + 1).toNat = r + 1 by omega, wd, ← hV]
      first | rfl | (rw [show ((r : Int) / 4).toNat = r / 4 by omega]; rfl)⟩, by dsimp only; omega⟩
  · obtain rfl : r = n := by omega
    obtain ⟨a0, a1, a2, a3, a4, a5, a6, a7, b0, b1, b2, b3, b4, b5, b6, b7, rfl⟩ := list16 hVl
    repeat' first | intro h1 | refine st ?_ | refine stm ?_ | refine Ja ?_ | refine Jb ?_ | refine Jc ?_ | refine Jd ?_ | refine Je ?_ | refine Jf ?_ | refine Jg ?_ | refine Jh ?_ ?_ | refine Ji ?_ ?_ | refine Jj ?_ ?_ | refine run_nil ?_ | refine sd ?_ | refine sdl ?_ | refine sdm (n := 1) ?_ | refine sdm ?_ | refine sdb ?_ | refine Jk ?_ | refine Jl ?_ | refine Jm ?_ | refine Jn ?_ ?_ | refine Jo ?_ ?_ | refine Jp ?_ ?_ | refine rund_nil ?_ | refine Jz ?_ | refine Jw ?_ | refine J0 (id := 5) [0,1,0,4,12,28,0,0,192,448,0,1024,3072,8128,16380,32767,65535] 16 ?_ | refine aw_block ?_ | refine Jq ?_ | refine Jr ?_ | refine Js ?_ | refine Jt ?_ | refine Ju ?_ ?_ | refine Jv ?_ ?_ | refine Jy ?_ | refine aw_exit ?_ | refine aw_ret ?_ | refine pp_ret ?_ | refine pp_normal ?_

    obtain rfl := hV.trans hC
    rfl
end Go.Proofs.YtjofcjogbopkjaaGreat
namespace Go.Proofs.YtjofcjogbopkjaaGreat
open Go Av
set_option maxRecDepth 20000
theorem dg_sg : ∀ r, r < 10 → ∀ j, j < 16 → dgI (byteAt (scheds.getD r .empty) j).toNat = sg r j := by decide +kernel
theorem sch_len : ∀ r, r < 10 → (scheds.getD r .empty).size = 16 := by decide +kernel
theorem aw_dg1 (r i : Nat) (hr : r < 10) (hi : i < 8) : ACalls Tryz.prog 106 [.int .u8 (byteAt (scheds.getD r .empty) (2 * (i : Int)).toNat).toNat] [] (.int .i64 (sg r (2 * i))) [] := by
  have h := aw_digit (byteAt (scheds.getD r .empty) (2 * (i : Int)).toNat).toNat
  rwa [show (2 * (i : Int)).toNat = 2 * i by omega, dg_sg r hr (2 * i) (by omega)] at *
theorem aw_dg2 (r i : Nat) (hr : r < 10) (hi : i < 8) : ACalls Tryz.prog 106 [.int .u8 (byteAt (scheds.getD r .empty) (2 * (i : Int) + 1).toNat).toNat] [] (.int .i64 (sg r (2 * i + 1))) [] := by
  have h := aw_digit (byteAt (scheds.getD r .empty) (2 * (i : Int) + 1).toNat).toNat
  rwa [show (2 * (i : Int) + 1).toNat = 2 * i + 1 by omega, dg_sg r hr (2 * i + 1) (by omega)] at *
structure Cg where
  r : Int
  V : List Int
set_option maxHeartbeats 8000000 in
theorem aw_compress (p0 p1 p2 p3 p4 p5 p6 p7 m0 m1 m2 m3 m4 m5 m6 m7 m8 m9 m10 m11 m12 m13 m14 m15 t : Int) (last : Bool) (C : List Int) (hC : cmp [p0, p1, p2, p3, p4, p5, p6, p7] [m0, m1, m2, m3, m4, m5, m6, m7, m8, m9, m10, m11, m12, m13, m14, m15] t last = C) : ACalls Tryz.prog 96 [.agg #[.int .u32 p0, .int .u32 p1, .int .u32 p2, .int .u32 p3, .int .u32 p4, .int .u32 p5, .int .u32 p6, .int .u32 p7], .agg #[.int .u32 m0, .int .u32 m1, .int .u32 m2, .int .u32 m3, .int .u32 m4, .int .u32 m5, .int .u32 m6, .int .u32 m7, .int .u32 m8, .int .u32 m9, .int .u32 m10, .int .u32 m11, .int .u32 m12, .int .u32 m13, .int .u32 m14, .int .u32 m15], .int .u64 t, .bool last] [] (.agg #[.int .u32 (C.getD 0 0), .int .u32 (C.getD 1 0), .int .u32 (C.getD 2 0), .int .u32 (C.getD 3 0), .int .u32 (C.getD 4 0), .int .u32 (C.getD 5 0), .int .u32 (C.getD 6 0), .int .u32 (C.getD 7 0)]) [] := by
  refine acalls_pure Tryz.func96 rfl rfl rfl ?_
  cases last
  all_goals
    repeat' first | refine st ?_ | refine st_call (aw_init) ?_ | refine stm ?_ | refine run_nil ?_ | refine sdl ?_ | refine sdb ?_ | refine rund_nil ?_ | refine Jz ?_ | refine Jw ?_ | refine J0 (id := 3) [0,0,3] 2 ?_ | refine J0 (id := 4) [0,0,3] 2 ?_ | refine aw_block ?_ | refine Jq ?_ | refine Jr ?_ | refine Jy ?_
  case' false =>
      refine aw_loopg
        (S := fun x : Cg => [(4, .pointer (some ⟨0, 0, none⟩)), (5, .pointer (some ⟨1, 0, none⟩)), (8, .pointer (some ⟨2, 0, none⟩)), (9, .pointer (some ⟨3, 0, none⟩)), (44, .int .i64 x.r)])
        (B := fun x : Cg => [some ⟨[.int .u32 p0, .int .u32 p1, .int .u32 p2, .int .u32 p3, .int .u32 p4, .int .u32 p5, .int .u32 p6, .int .u32 p7], true, 1⟩, some ⟨([m0, m1, m2, m3, m4, m5, m6, m7, m8, m9, m10, m11, m12, m13, m14, m15]).map (Value.int .u32), true, 1⟩, some ⟨[.int .u32 0, .int .u32 0, .int .u32 0, .int .u32 0, .int .u32 0, .int .u32 0, .int .u32 0, .int .u32 0], true, 1⟩, some ⟨x.V.map (Value.int .u32), true, 1⟩])
        (R := fun x : Cg => 0 ≤ x.r ∧ x.r ≤ 10 ∧ x.V = rnd ([m0, m1, m2, m3, m4, m5, m6, m7, m8, m9, m10, m11, m12, m13, m14, m15]) x.r.toNat (init16 [p0, p1, p2, p3, p4, p5, p6, p7] t false))
        (μ := fun x : Cg => (10 - x.r).toNat) ⟨0, init16 [p0, p1, p2, p3, p4, p5, p6, p7] t false⟩ (fits [0, 1, 2, 3]) ⟨by dsimp only; omega, by dsimp only; omega, rfl⟩ ?_
  case' true =>
      refine aw_loopg
        (S := fun x : Cg => [(4, .pointer (some ⟨0, 0, none⟩)), (5, .pointer (some ⟨1, 0, none⟩)), (8, .pointer (some ⟨2, 0, none⟩)), (9, .pointer (some ⟨3, 0, none⟩)), (44, .int .i64 x.r)])
        (B := fun x : Cg => [some ⟨[.int .u32 p0, .int .u32 p1, .int .u32 p2, .int .u32 p3, .int .u32 p4, .int .u32 p5, .int .u32 p6, .int .u32 p7], true, 1⟩, some ⟨([m0, m1, m2, m3, m4, m5, m6, m7, m8, m9, m10, m11, m12, m13, m14, m15]).map (Value.int .u32), true, 1⟩, some ⟨[.int .u32 0, .int .u32 0, .int .u32 0, .int .u32 0, .int .u32 0, .int .u32 0, .int .u32 0, .int .u32 0], true, 1⟩, some ⟨x.V.map (Value.int .u32), true, 1⟩])
        (R := fun x : Cg => 0 ≤ x.r ∧ x.r ≤ 10 ∧ x.V = rnd ([m0, m1, m2, m3, m4, m5, m6, m7, m8, m9, m10, m11, m12, m13, m14, m15]) x.r.toNat (init16 [p0, p1, p2, p3, p4, p5, p6, p7] t true))
        (μ := fun x : Cg => (10 - x.r).toNat) ⟨0, init16 [p0, p1, p2, p3, p4, p5, p6, p7] t true⟩ (fits [0, 1, 2, 3]) ⟨by dsimp only; omega, by dsimp only; omega, rfl⟩ ?_
  all_goals
    rintro ⟨r, V⟩ ⟨h1, h2, hV⟩
    dsimp only at *
    obtain ⟨r, rfl⟩ : ∃ n : Nat, r = n := ⟨r.toNat, by omega⟩
    rw [Int.toNat_natCast] at hV
    have hVl : V.length = 16 := by rw [hV, rnd_len]; rfl
    by_cases hr : (r : Int) < 10
    · have H1 := aw_sched r (by omega)
      repeat' first | refine st ?_ | refine st_call (H1) ?_ | refine run_nil ?_ | refine Jz ?_ | refine Jw ?_ | refine aw_block ?_ | refine Js ?_ | refine Jy ?_
      refine aw_loopg
        (S := fun x : Cg => [(4, .pointer (some ⟨0, 0, none⟩)), (5, .pointer (some ⟨1, 0, none⟩)), (8, .pointer (some ⟨2, 0, none⟩)), (9, .pointer (some ⟨3, 0, none⟩)), (12, .string (scheds.getD r .empty)), (44, .int .i64 r), (49, .int .i64 x.r)])
        (B := fun x : Cg => [some ⟨[.int .u32 p0, .int .u32 p1, .int .u32 p2, .int .u32 p3, .int .u32 p4, .int .u32 p5, .int .u32 p6, .int .u32 p7], true, 1⟩, some ⟨([m0, m1, m2, m3, m4, m5, m6, m7, m8, m9, m10, m11, m12, m13, m14, m15]).map (Value.int .u32), true, 1⟩, some ⟨[.int .u32 0, .int .u32 0, .int .u32 0, .int .u32 0, .int .u32 0, .int .u32 0, .int .u32 0, .int .u32 0], true, 1⟩, some ⟨x.V.map (Value.int .u32), true, 1⟩])
        (R := fun x : Cg => 0 ≤ x.r ∧ x.r ≤ 8 ∧ x.V = mixN ([m0, m1, m2, m3, m4, m5, m6, m7, m8, m9, m10, m11, m12, m13, m14, m15]) r x.r.toNat V)
        (μ := fun x : Cg => (8 - x.r).toNat) ⟨0, V⟩ (fits [0, 1, 2, 3]) ⟨by dsimp only; omega, by dsimp only; omega, rfl⟩ ?_
      rintro ⟨i, V1⟩ ⟨g1, g2, hV1⟩
      dsimp only at *
      obtain ⟨i, rfl⟩ : ∃ n : Nat, i = n := ⟨i.toNat, by omega⟩
      rw [Int.toNat_natCast] at hV1
      have hVl1 : V1.length = 16 := by rw [hV1, mixN_len, hVl]
      have hs := sch_len r (by omega)
      by_cases hi : (i : Int) < 8
      · have H1 := aw_lane i (by omega)
        have H2 := aw_dg1 r i (by omega) (by omega)
        have H3 := aw_dg2 r i (by omega) (by omega)
        have b1 := sg_bd r (by omega) (2 * i) (by omega)
        have b2 := sg_bd r (by omega) (2 * i + 1) (by omega)
        have c0 := ln_bd i (by omega) 0 (by omega)
        have c1 := ln_bd i (by omega) 1 (by omega)
        have c2 := ln_bd i (by omega) 2 (by omega)
        have c3 := ln_bd i (by omega) 3 (by omega)
        repeat' first | refine st ?_ | refine st_call (H1) ?_ | refine aw_loop_in ?_ | refine awl_round ?_ | refine stm ?_ | refine run_nil ?_ | refine sd ?_ | refine sdl ?_ | refine sd_call (H2) ?_ | refine sd_call (H3) ?_ | refine sd_call (aw_mix _ _ _ _ _ _) ?_ | refine sdm (n := 1) ?_ | refine sdb ?_ | refine rund_nil ?_ | refine Jz ?_ | refine Jw ?_ | refine J0 (id := 17) [0,1,3,7,0,16,48,112,0,256,768,1792,0,4096,12288,28672,65535,0,0,262144,917504,1966080,4063232,8257536,0,0,33554432,100663296,251658240,524156928,1061027840,2134769664,4294967295,0,17179869183] 34 ?_ | refine aw_block ?_ | refine Jq ?_ | refine Jr ?_ | refine Js ?_ | refine Jy ?_ | refine aw_exit ?_
        exact then_normal ⟨⟨_, _⟩, fits [0, 1, 2, 3], ⟨by dsimp only; omega, by dsimp only; omega, by
          dsimp only
          rw [show ((i : Int) + 1).toNat = i + 1 by omega, mixN, ← hV1]
          rfl⟩, by dsimp only; omega⟩
      · obtain rfl : i = 8 := by omega
        repeat' first | refine st ?_ | refine run_nil ?_ | refine Jz ?_ | refine Jw ?_ | refine Jr ?_ | refine aw_exit ?_
        exact then_normal ⟨⟨_, _⟩, fits [0, 1, 2, 3], ⟨by dsimp only; omega, by dsimp only; omega, by
          dsimp only
          rw [show ((r : Int) + 1).toNat = r + 1 by omega, hV1, rnd, ← hV]⟩, by dsimp only; omega⟩
    · skip
      repeat' first | refine st ?_ | refine run_nil ?_ | refine Jz ?_ | refine Jw ?_ | refine aw_block ?_ | refine Jt ?_ | refine aw_exit ?_
      obtain rfl : r = 10 := by omega
      refine aw_loopg
        (S := fun x : Cg => [(4, .pointer (some ⟨0, 0, none⟩)), (8, .pointer (some ⟨1, 0, none⟩)), (9, .pointer (some ⟨2, 0, none⟩)), (100, .int .i64 x.r)])
        (B := fun x : Cg => [some ⟨x.V.map (Value.int .u32), true, 1⟩, some ⟨[.int .u32 0, .int .u32 0, .int .u32 0, .int .u32 0, .int .u32 0, .int .u32 0, .int .u32 0, .int .u32 0], true, 1⟩, some ⟨V.map (Value.int .u32), true, 1⟩])
        (R := fun x : Cg => 0 ≤ x.r ∧ x.r ≤ 8 ∧ x.V = fold8 V x.r.toNat [p0, p1, p2, p3, p4, p5, p6, p7])
        (μ := fun x : Cg => (8 - x.r).toNat) ⟨0, [p0, p1, p2, p3, p4, p5, p6, p7]⟩ (fits [0, 2, 3]) ⟨by dsimp only; omega, by dsimp only; omega, rfl⟩ ?_
      rintro ⟨i, H⟩ ⟨g1, g2, hH⟩
      dsimp only at *
      obtain ⟨i, rfl⟩ : ∃ n : Nat, i = n := ⟨i.toNat, by omega⟩
      rw [Int.toNat_natCast] at hH
      have hHl : H.length = 8 := by rw [hH, fold8_len]; rfl
      by_cases hi : (i : Int) < 8
      · skip
        repeat' first | refine st ?_ | refine run_nil ?_ | refine sd ?_ | refine sdl ?_ | refine sdb ?_ | refine rund_nil ?_ | refine Jz ?_ | refine Jw ?_ | refine J0 (id := 28) [0,1,3,0,8,24,0,64,192,448,1016,2047,4095,8191] 13 ?_ | refine aw_block ?_ | refine Js ?_ | refine Jy ?_
        exact then_normal ⟨⟨_, _⟩, fits [0, 1, 2], ⟨by dsimp only; omega, by dsimp only; omega, by
          dsimp only
          rw [show ((i : Int) + 1).toNat = i + 1 by omega, fold8, ← hH]
          rfl⟩, by dsimp only; omega⟩
      · obtain rfl : i = 8 := by omega
        obtain ⟨a0, a1, a2, a3, a4, a5, a6, a7, rfl⟩ := list8 hHl
        repeat' first | refine st ?_ | refine stm ?_ | refine run_nil ?_ | refine Jz ?_ | refine Jw ?_ | refine Jr ?_ | refine aw_exit ?_ | refine aw_ret ?_ | refine pp_ret ?_
        obtain rfl : C = [a0, a1, a2, a3, a4, a5, a6, a7] := by rw [hH, ← hC, cmp, hV]
        rfl
end Go.Proofs.YtjofcjogbopkjaaGreat
