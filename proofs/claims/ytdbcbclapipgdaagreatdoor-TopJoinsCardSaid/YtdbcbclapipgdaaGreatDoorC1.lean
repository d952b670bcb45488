/- Digest: the words' plain functions; Bits: plain functions; Digest: the small functions' walks; Digest: the small functions' walks. -/
import Derived.Test.YtdbcbclapipgdaaGreatDoorVO
import Derived.Test.YtdbcbclapipgdaaGreatDoorJ
set_option linter.unusedVariables false
set_option linter.unusedSimpArgs false
namespace Go.Proofs.YtdbcbclapipgdaaGreatDoor
open Go Av
set_option maxRecDepth 20000
theorem and31 (a : Int) : 0 ≤ bitv .and .u64 a 31 ∧ bitv .and .u64 a 31 ≤ 31 := by
  have h : (BitVec.ofInt 64 a &&& BitVec.ofInt 64 31).toNat ≤ 31 := by rw [BitVec.toNat_and]; exact Nat.and_le_right
  show 0 ≤ IntKind.u64.wrap ((BitVec.ofInt 64 a &&& BitVec.ofInt 64 31).toNat) ∧ IntKind.u64.wrap ((BitVec.ofInt 64 a &&& BitVec.ofInt 64 31).toNat) ≤ 31
  generalize (BitVec.ofInt 64 a &&& BitVec.ofInt 64 31).toNat = z at h
  rw [wrap_id (by simp [IntKind.min, IntKind.signed]) (by simp [IntKind.max, IntKind.signed, IntKind.bits]; omega)]
  omega
def w32 (a : Int) : Int := IntKind.u32.wrap a
def x32 (a b : Int) : Int := bitv .xor .u32 a b
def rot (x k : Int) : Int := bitv .or .u32 (IntKind.u32.wrap (x * 2 ^ (min (bitv .and .u64 (IntKind.u64.wrap k) 31).toNat 32))) (x / 2 ^ (min (IntKind.u64.wrap (32 - bitv .and .u64 (IntKind.u64.wrap k) 31)).toNat 32))
/-- Four words mixed with two. -/
def mix (a b c d x y : Int) : List Int :=
  let a1 := w32 (a + w32 (b + x))
  let d1 := rot (x32 d a1) (-16)
  let c1 := w32 (c + d1)
  let b1 := rot (x32 b c1) (-12)
  let a2 := w32 (a1 + w32 (b1 + y))
  let d2 := rot (x32 d1 a2) (-8)
  let c2 := w32 (c1 + d2)
  let b2 := rot (x32 b1 c2) (-7)
  [a2, b2, c2, d2]
def ivs : List Int := [1779033703, 3144134277, 1013904242, 2773480762, 1359893119, 2600822924, 528734635, 1541459225]
def lanes : List (List Int) := [[0, 4, 8, 12], [1, 5, 9, 13], [2, 6, 10, 14], [3, 7, 11, 15], [0, 5, 10, 15], [1, 6, 11, 12], [2, 7, 8, 13], [3, 4, 9, 14]]
def sgm : List (List Int) := [[0, 1, 2, 3, 4, 5, 6, 7, 8, 9, 10, 11, 12, 13, 14, 15], [14, 10, 4, 8, 9, 15, 13, 6, 1, 12, 0, 2, 11, 7, 5, 3], [11, 8, 12, 0, 5, 2, 15, 13, 10, 14, 3, 6, 7, 1, 9, 4],
  [7, 9, 3, 1, 13, 12, 11, 14, 2, 6, 5, 10, 4, 0, 15, 8], [9, 0, 5, 7, 2, 4, 10, 15, 14, 1, 11, 12, 6, 8, 3, 13], [2, 12, 6, 10, 0, 11, 8, 3, 4, 13, 7, 5, 15, 14, 1, 9], [12, 5, 1, 15, 14, 13, 4, 10, 0, 7, 6, 3, 9, 2, 8, 11],
  [13, 11, 7, 14, 12, 1, 3, 9, 5, 0, 15, 4, 8, 6, 2, 10], [6, 15, 14, 9, 11, 3, 0, 8, 12, 2, 13, 7, 1, 4, 10, 5], [10, 2, 8, 4, 7, 6, 1, 5, 15, 11, 9, 14, 3, 12, 13, 0]]
def ln (i j : Nat) : Int := (lanes.getD i []).getD j 0
def sg (r j : Nat) : Int := (sgm.getD r []).getD j 0
theorem ln_bd : ∀ i, i < 8 → ∀ j, j < 4 → 0 ≤ ln i j ∧ ln i j < 16 := by decide
theorem sg_bd : ∀ r, r < 10 → ∀ j, j < 16 → 0 ≤ sg r j ∧ sg r j < 16 := by decide
/-- One mixing of a round. -/
def mixAt (M : List Int) (r i : Nat) (V : List Int) : List Int :=
  let w := mix (V.getD (ln i 0).toNat 0) (V.getD (ln i 1).toNat 0) (V.getD (ln i 2).toNat 0) (V.getD (ln i 3).toNat 0) (M.getD (sg r (2 * i)).toNat 0) (M.getD (sg r (2 * i + 1)).toNat 0)
  (((V.set (ln i 0).toNat (w.getD 0 0)).set (ln i 1).toNat (w.getD 1 0)).set (ln i 2).toNat (w.getD 2 0)).set (ln i 3).toNat (w.getD 3 0)
def mixN (M : List Int) (r : Nat) : Nat → List Int → List Int
  | 0, V => V
  | i + 1, V => mixAt M r i (mixN M r i V)
def rnd (M : List Int) : Nat → List Int → List Int
  | 0, V => V
  | r + 1, V => mixN M r 8 (rnd M r V)
theorem mixAt_len (M r i V) : (mixAt M r i V).length = V.length := by simp [mixAt]
theorem mixN_len (M r i V) : (mixN M r i V).length = V.length := by induction i with
  | zero => rfl
  | succ i ih => simp [mixN, mixAt_len, ih]
theorem rnd_len (M r V) : (rnd M r V).length = V.length := by induction r with
  | zero => rfl
  | succ r ih => simp [rnd, mixN_len, ih]
def init16 (H : List Int) (t : Int) (last : Bool) : List Int :=
  [H.getD 0 0, H.getD 1 0, H.getD 2 0, H.getD 3 0, H.getD 4 0, H.getD 5 0, H.getD 6 0, H.getD 7 0, 1779033703, 3144134277, 1013904242, 2773480762,
    x32 1359893119 (w32 t), x32 2600822924 (w32 (t / 4294967296)), if last then x32 (if IntKind.u32.signed = true then -1 else IntKind.u32.max) 528734635 else 528734635, 1541459225]
def fold8 (V : List Int) : Nat → List Int → List Int
  | 0, H => H
  | i + 1, H => let H' := fold8 V i H; H'.set i (x32 (H'.getD i 0) (x32 (V.getD i 0) (V.getD (i + 8) 0)))
theorem fold8_len (V i H) : (fold8 V i H).length = H.length := by induction i with
  | zero => rfl
  | succ i ih => simp [fold8, ih]
theorem list8 {l : List Int} (h : l.length = 8) : ∃ a0 a1 a2 a3 a4 a5 a6 a7, l = [a0, a1, a2, a3, a4, a5, a6, a7] := by
  match l, h with
  | [a0, a1, a2, a3, a4, a5, a6, a7], _ => exact ⟨_, _, _, _, _, _, _, _, rfl⟩
theorem list16 {l : List Int} (h : l.length = 16) : ∃ a0 a1 a2 a3 a4 a5 a6 a7 b0 b1 b2 b3 b4 b5 b6 b7, l = [a0, a1, a2, a3, a4, a5, a6, a7, b0, b1, b2, b3, b4, b5, b6, b7] := by
  match l, h with
  | [a0, a1, a2, a3, a4, a5, a6, a7, b0, b1, b2, b3, b4, b5, b6, b7], _ => exact ⟨_, _, _, _, _, _, _, _, _, _, _, _, _, _, _, _, rfl⟩
def cmp (H M : List Int) (t : Int) (last : Bool) : List Int := fold8 (rnd M 10 (init16 H t last)) 8 H
def dgI (c : Int) : Int := if 97 ≤ c then IntKind.u8.wrap (c - 97) + 10 else IntKind.u8.wrap (c - 48)
theorem wrap8 (c : Int) : 0 ≤ IntKind.u8.wrap c ∧ IntKind.u8.wrap c ≤ 255 := by
  simp only [IntKind.wrap, IntKind.signed, IntKind.bits]
  constructor
  · simp; omega
  · simp; omega
theorem h8 (i : Nat) (h : i < 8) : i = 0 ∨ i = 1 ∨ i = 2 ∨ i = 3 ∨ i = 4 ∨ i = 5 ∨ i = 6 ∨ i = 7 := by omega
theorem h10 (i : Nat) (h : i < 10) : i = 0 ∨ i = 1 ∨ i = 2 ∨ i = 3 ∨ i = 4 ∨ i = 5 ∨ i = 6 ∨ i = 7 ∨ i = 8 ∨ i = 9 := by omega
def scheds : List ByteArray := [⟨#[48, 49, 50, 51, 52, 53, 54, 55, 56, 57, 97, 98, 99, 100, 101, 102]⟩, ⟨#[101, 97, 52, 56, 57, 102, 100, 54, 49, 99, 48, 50, 98, 55, 53, 51]⟩, ⟨#[98, 56, 99, 48, 53, 50, 102, 100, 97, 101, 51, 54, 55, 49, 57, 52]⟩, ⟨#[55, 57, 51, 49, 100, 99, 98, 101, 50, 54, 53, 97, 52, 48, 102, 56]⟩, ⟨#[57, 48, 53, 55, 50, 52, 97, 102, 101, 49, 98, 99, 54, 56, 51, 100]⟩, ⟨#[50, 99, 54, 97, 48, 98, 56, 51, 52, 100, 55, 53, 102, 101, 49, 57]⟩, ⟨#[99, 53, 49, 102, 101, 100, 52, 97, 48, 55, 54, 51, 57, 50, 56, 98]⟩, ⟨#[100, 98, 55, 101, 99, 49, 51, 57, 53, 48, 102, 52, 56, 54, 50, 97]⟩, ⟨#[54, 102, 101, 57, 98, 51, 48, 56, 99, 50, 100, 55, 49, 52, 97, 53]⟩, ⟨#[97, 50, 56, 52, 55, 54, 49, 53, 102, 98, 57, 101, 51, 99, 100, 48]⟩]
theorem bv_and1 (k : IntKind) (hk : k = .u64 ∨ k = .i64) (x : Int) : bitv .and k x 1 = x % 2 := by
  have h : ((BitVec.ofInt 64 x &&& BitVec.ofInt 64 1).toNat : Int) = x % 2 := by
    rw [BitVec.toNat_and, BitVec.toNat_ofInt, BitVec.toNat_ofInt, show ((1 : Int) % (2 ^ 64 : Nat)).toNat = 1 from rfl, Nat.and_one_is_mod]
    omega
  rcases hk with rfl | rfl
  · show IntKind.u64.wrap ((BitVec.ofInt 64 x &&& BitVec.ofInt 64 1).toNat : Int) = _
    rw [h]
    exact wrap_id (by simp [IntKind.min, IntKind.signed]; omega) (by simp [IntKind.max, IntKind.signed, IntKind.bits]; omega)
  · show IntKind.i64.wrap ((BitVec.ofInt 64 x &&& BitVec.ofInt 64 1).toNat : Int) = _
    rw [h]
    exact wrap_id (by simp [IntKind.min, IntKind.signed, IntKind.bits]; omega) (by simp [IntKind.max, IntKind.signed, IntKind.bits]; omega)
/-- The lowest w bits of a number, the highest one first. -/
def bitsOf : Nat → Int → List Int
  | 0, _ => []
  | w + 1, x => x / 2 ^ w % 2 :: bitsOf w x
theorem bitsOf_len (w x) : (bitsOf w x).length = w := by induction w with
  | zero => rfl
  | succ w ih => simp [bitsOf, ih]
def pkS (Z : List Int) (k : Nat) (b : Int) : List Int :=
  let Y := if k % 8 = 0 then Z ++ [0] else Z
  Y.set (k / 8) (bitv .or .u8 (Y.getD (k / 8) 0) (IntKind.u8.wrap (b * 2 ^ (7 - k % 8))))
/-- The bytes of the first k bits. -/
def pkN (bs : List Int) : Nat → List Int
  | 0 => []
  | k + 1 => pkS (pkN bs k) k (bs.getD k 0)
def pack (bs : List Int) : List Int := pkN bs bs.length
theorem pkS_len (Z k b) : (pkS Z k b).length = if k % 8 = 0 then Z.length + 1 else Z.length := by
  unfold pkS
  split <;> simp
theorem pkN_len (bs k) : (pkN bs k).length = (k + 7) / 8 := by induction k with
  | zero => rfl
  | succ k ih =>
    rw [pkN, pkS_len, ih]
    split <;> omega
theorem pkN_app (bs xs : List Int) : ∀ k, k ≤ bs.length → pkN (bs ++ xs) k = pkN bs k
  | 0, _ => rfl
  | k + 1, h => by
    rw [pkN, pkN, pkN_app bs xs k (by omega), List.getD_eq_getElem?_getD, List.getD_eq_getElem?_getD, List.getElem?_append_left (by omega)]
theorem pack_len (bs) : (pack bs).length = (bs.length + 7) / 8 := pkN_len bs bs.length
theorem pack_snoc (bs : List Int) (b : Int) : pack (bs ++ [b]) = pkS (pack bs) bs.length b := by
  unfold pack
  rw [List.length_append, show [b].length = 1 from rfl, pkN, pkN_app bs [b] _ (Nat.le_refl _), List.getD_eq_getElem?_getD, List.getElem?_append_right (Nat.le_refl _), Nat.sub_self]
  rfl
theorem aw_rot (x k : Int) : ACalls Tryz.prog 215 [.int .u32 x, .int .i64 k] [] (.int .u32 (rot x k)) [] := by
  have hb : ∀ a : Int, 0 ≤ bitv .and .u64 a 31 ∧ bitv .and .u64 a 31 ≤ 31 := and31
  have hb2 := hb (IntKind.u64.wrap k)
  have hb3 : 0 ≤ IntKind.u64.wrap (32 - bitv .and .u64 (IntKind.u64.wrap k) 31) := by rw [wrap_id (by simp [IntKind.min, IntKind.signed]; omega) (by simp [IntKind.max, IntKind.signed, IntKind.bits]; omega)]; omega
  refine acalls_pure Tryz.func215 rfl rfl rfl ?_
  repeat' first | refine st ?_ | refine run_nil ?_ | refine Jz ?_ | refine Jw ?_ | refine aw_ret ?_ | refine pp_ret ?_

  all_goals rfl
set_option maxHeartbeats 1000000 in
theorem aw_mix (a b c d x y : Int) : ACalls Tryz.prog 204 [.agg #[.int .u32 a, .int .u32 b, .int .u32 c, .int .u32 d], .int .u32 x, .int .u32 y] [] (.agg #[.int .u32 ((mix a b c d x y).getD 0 0), .int .u32 ((mix a b c d x y).getD 1 0), .int .u32 ((mix a b c d x y).getD 2 0), .int .u32 ((mix a b c d x y).getD 3 0)]) [] := by
  refine acalls_pure Tryz.func204 rfl rfl rfl ?_
  repeat' first | refine st ?_ | refine st_call (aw_rot _ _) ?_ | refine stm ?_ | refine run_nil ?_ | refine sd ?_ | refine sdl ?_ | refine rund_nil ?_ | refine Jz ?_ | refine Jw ?_ | refine J0 (id := 1) [0,1,0,4,0,16,0,64,3,271,831,2047] 12 ?_ | refine aw_ret ?_ | refine pp_ret ?_

  all_goals rfl
theorem aw_digit (c : Int) : ACalls Tryz.prog 205 [.int .u8 c] [] (.int .i64 (dgI c)) [] := by
  have h1 := wrap8 (c - 97)
  have h2 := wrap8 (c - 48)
  refine acalls_pure Tryz.func205 rfl rfl rfl ?_
  repeat' first | intro h1 | refine st ?_ | refine run_nil ?_ | refine Jz ?_ | refine Jw ?_ | refine Ju ?_ ?_ | refine Jy ?_ | refine aw_ret ?_ | refine pp_ret ?_

  all_goals simp [retOf, dgI, *]
theorem aw_init : ACalls Tryz.prog 186 [] [] (.agg #[.int .u32 (ivs.getD 0 0), .int .u32 (ivs.getD 1 0), .int .u32 (ivs.getD 2 0), .int .u32 (ivs.getD 3 0), .int .u32 (ivs.getD 4 0), .int .u32 (ivs.getD 5 0), .int .u32 (ivs.getD 6 0), .int .u32 (ivs.getD 7 0)]) [] := by
  refine acalls_pure Tryz.func186 rfl rfl rfl ?_
  repeat' first | refine st ?_ | refine stm ?_ | refine run_nil ?_ | refine Jz ?_ | refine Jw ?_ | refine aw_ret ?_ | refine pp_ret ?_

  all_goals rfl
theorem aw_lane (i : Nat) (h : i < 8) : ACalls Tryz.prog 203 [.int .i64 i] [] (.agg #[.int .i64 (ln i 0), .int .i64 (ln i 1), .int .i64 (ln i 2), .int .i64 (ln i 3)]) [] := by
  rcases h8 i h with rfl | rfl | rfl | rfl | rfl | rfl | rfl | rfl
  all_goals
    refine acalls_pure Tryz.func203 rfl rfl rfl ?_
    repeat' first | refine st ?_ | refine stm ?_ | refine run_nil ?_ | refine Jz ?_ | refine Jw ?_ | refine aw_ret ?_ | refine pp_ret ?_

  all_goals rfl
theorem aw_sched (i : Nat) (h : i < 10) : ACalls Tryz.prog 202 [.int .i64 i] [] (.string (scheds.getD i .empty)) [] := by
  rcases h10 i h with rfl | rfl | rfl | rfl | rfl | rfl | rfl | rfl | rfl | rfl
  all_goals
    refine acalls_pure Tryz.func202 rfl rfl rfl ?_
    repeat' first | refine st ?_ | refine run_nil ?_ | refine Jz ?_ | refine Jw ?_ | refine aw_ret ?_ | refine pp_ret ?_

  all_goals rfl
end Go.Proofs.YtdbcbclapipgdaaGreatDoor
