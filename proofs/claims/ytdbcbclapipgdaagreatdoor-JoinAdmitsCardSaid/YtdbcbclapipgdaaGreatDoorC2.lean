/- Bits: plain functions; Digest: the small functions' walks; Digest: the small functions' walks. -/
import Derived.Test.YtdbcbclapipgdaaGreatDoorVO
import Derived.Test.YtdbcbclapipgdaaGreatDoorVN
import Derived.Test.YtdbcbclapipgdaaGreatDoorJ
import Derived.Test.YtdbcbclapipgdaaGreatDoorC1
set_option linter.unusedVariables false
set_option linter.unusedSimpArgs false
namespace Go.Proofs.YtdbcbclapipgdaaGreatDoor
open Go Av
set_option maxRecDepth 20000
theorem bv_and1 (k : IntKind) (hk : k = .u64 ∨ k = .i64) (x : Int) : bitv .and k x 1 = x % 2 := by
  have h : ((BitVec.ofInt 64 x &&& BitVec.ofInt 64 1).toNat : Int) = x % 2 := by
    rw [BitVec.toNat_and, BitVec.toNat_ofInt, BitVec.toNat_ofInt, show ((1 : Int) % (2 ^ 64 : Nat)).toNat = 1 from rfl, Nat.and_one_is_mod]
    omega
  rcases hk with rfl | rfl
  · show IntKind.u64.wrap ((BitVec.ofInt 64 x &&& BitVec.ofInt 64 1).toNat : Int) = _
    rw [h]
    exact wrap_id (by simp [IntKind.min, IntKind.signed]; omega) (by simp [IntKind.max, IntKind.signed, IntKind.bits]; omega)
  · show IntKind.i64.wrap ((BitVec.ofInt 64 x &&& BitVec.ofInt 64 1).toNat : Int) = _
    rw [h]
    exact wrap_id (by simp [IntKind.min, IntKind.signed, IntKind.bits]; omega) (by simp [IntKind.max, IntKind.signed, IntKind.bits]; omega)
/-- The lowest w bits of a number, the highest one first. -/
def bitsOf : Nat → Int → List Int
  | 0, _ => []
  | w + 1, x => x / 2 ^ w % 2 :: bitsOf w x
theorem bitsOf_len (w x) : (bitsOf w x).length = w := by induction w with
  | zero => rfl
  | succ w ih => simp [bitsOf, ih]
def pkS (Z : List Int) (k : Nat) (b : Int) : List Int :=
  let Y := if k % 8 = 0 then Z ++ [0] else Z
  Y.set (k / 8) (bitv .or .u8 (Y.getD (k / 8) 0) (IntKind.u8.wrap (b * 2 ^ (7 - k % 8))))
/-- The bytes of the first k bits. -/
def pkN (bs : List Int) : Nat → List Int
  | 0 => []
  | k + 1 => pkS (pkN bs k) k (bs.getD k 0)
def pack (bs : List Int) : List Int := pkN bs bs.length
theorem pkS_len (Z k b) : (pkS Z k b).length = if k % 8 = 0 then Z.length + 1 else Z.length := by
  unfold pkS
  split <;> simp
theorem pkN_len (bs k) : (pkN bs k).length = (k + 7) / 8 := by induction k with
  | zero => rfl
  | succ k ih =>
    rw [pkN, pkS_len, ih]
    split <;> omega
theorem pack_len (bs) : (pack bs).length = (bs.length + 7) / 8 := pkN_len bs bs.length
theorem aw_rot (x k : Int) : ACalls Tryz.prog 215 [.int .u32 x, .int .i64 k] [] (.int .u32 (rot x k)) [] := by
  have hb : ∀ a : Int, 0 ≤ bitv .and .u64 a 31 ∧ bitv .and .u64 a 31 ≤ 31 := and31
  have hb2 := hb (IntKind.u64.wrap k)
  have hb3 : 0 ≤ IntKind.u64.wrap (32 - bitv .and .u64 (IntKind.u64.wrap k) 31) := by rw [wrap_id (by simp [IntKind.min, IntKind.signed]; omega) (by simp [IntKind.max, IntKind.signed, IntKind.bits]; omega)]; omega
  refine acalls_pure Tryz.func215 rfl rfl rfl ?_
  repeat' first | intro h1 | refine st ?_ | refine Kc ?_ | refine Ka ?_ | refine Kb ?_ ?_ | fail

  all_goals rfl
set_option maxHeartbeats 1000000 in
theorem aw_mix (a b c d x y : Int) : ACalls Tryz.prog 204 [.agg #[.int .u32 a, .int .u32 b, .int .u32 c, .int .u32 d], .int .u32 x, .int .u32 y] [] (.agg #[.int .u32 ((mix a b c d x y).getD 0 0), .int .u32 ((mix a b c d x y).getD 1 0), .int .u32 ((mix a b c d x y).getD 2 0), .int .u32 ((mix a b c d x y).getD 3 0)]) [] := by
  refine acalls_pure Tryz.func204 rfl rfl rfl ?_
  repeat' first | intro h1 | refine st ?_ | refine st_call (aw_rot _ _) ?_ | refine sd_call (aw_rot _ _) ?_ | refine Kc ?_ | refine Ka ?_ | refine Kb ?_ ?_ | refine J0 (id := 1) [0,1,0,4,0,16,0,64,3,271,831,2047] 12 ?_ | fail

  all_goals rfl
set_option maxHeartbeats 1000000 in
theorem aw_rmix (a b c d x y : Int) : ACalls Tryz.prog 207 [.agg #[.int .u32 a, .int .u32 b, .int .u32 c, .int .u32 d], .int .u32 x, .int .u32 y] [] (.agg #[.int .u32 ((mix a b c d x y).getD 0 0), .int .u32 ((mix a b c d x y).getD 1 0), .int .u32 ((mix a b c d x y).getD 2 0), .int .u32 ((mix a b c d x y).getD 3 0)]) [] := by
  refine acalls_pure Tryz.func207 rfl rfl rfl ?_
  repeat' first | intro h1 | refine st ?_ | refine st_call (aw_rot _ _) ?_ | refine sd_call (aw_rot _ _) ?_ | refine Kc ?_ | refine Ka ?_ | refine Kb ?_ ?_ | refine J0 (id := 1) [0,1,0,4,0,16,0,64,3,271,831,2047] 12 ?_ | fail

  all_goals (simp only [mix, w32, x32, List.getD_cons_zero, List.getD_cons_succ, w_assoc]; rfl)
theorem aw_digit (c : Int) : ACalls Tryz.prog 205 [.int .u8 c] [] (.int .i64 (dgI c)) [] := by
  have h1 := wrap8 (c - 97)
  have h2 := wrap8 (c - 48)
  refine acalls_pure Tryz.func205 rfl rfl rfl ?_
  repeat' first | intro h1 | refine st ?_ | refine Kc ?_ | refine Ka ?_ | refine Kb ?_ ?_ | fail

  all_goals simp [retOf, dgI, *]
theorem aw_init : ACalls Tryz.prog 186 [] [] (.agg #[.int .u32 (ivs.getD 0 0), .int .u32 (ivs.getD 1 0), .int .u32 (ivs.getD 2 0), .int .u32 (ivs.getD 3 0), .int .u32 (ivs.getD 4 0), .int .u32 (ivs.getD 5 0), .int .u32 (ivs.getD 6 0), .int .u32 (ivs.getD 7 0)]) [] := by
  refine acalls_pure Tryz.func186 rfl rfl rfl ?_
  repeat' first | intro h1 | refine st ?_ | refine Kc ?_ | refine Ka ?_ | refine Kb ?_ ?_ | fail

  all_goals rfl
theorem aw_rinit : ACalls Tryz.prog 190 [] [] (.agg #[.int .u32 (ivs.getD 0 0), .int .u32 (ivs.getD 1 0), .int .u32 (ivs.getD 2 0), .int .u32 (ivs.getD 3 0), .int .u32 (ivs.getD 4 0), .int .u32 (ivs.getD 5 0), .int .u32 (ivs.getD 6 0), .int .u32 (ivs.getD 7 0)]) [] := by
  refine acalls_pure Tryz.func190 rfl rfl rfl ?_
  repeat' first | intro h1 | refine st ?_ | refine Kc ?_ | refine Ka ?_ | refine Kb ?_ ?_ | fail

  all_goals rfl
theorem aw_lane (i : Nat) (h : i < 8) : ACalls Tryz.prog 203 [.int .i64 i] [] (.agg #[.int .i64 (ln i 0), .int .i64 (ln i 1), .int .i64 (ln i 2), .int .i64 (ln i 3)]) [] := by
  rcases h8 i h with rfl | rfl | rfl | rfl | rfl | rfl | rfl | rfl
  all_goals
    refine acalls_pure Tryz.func203 rfl rfl rfl ?_
    repeat' first | intro h1 | refine st ?_ | refine Kc ?_ | refine Ka ?_ | refine Kb ?_ ?_ | fail

  all_goals rfl
theorem aw_sched (i : Nat) (h : i < 10) : ACalls Tryz.prog 202 [.int .i64 i] [] (.string (scheds.getD i .empty)) [] := by
  rcases h10 i h with rfl | rfl | rfl | rfl | rfl | rfl | rfl | rfl | rfl | rfl
  all_goals
    refine acalls_pure Tryz.func202 rfl rfl rfl ?_
    repeat' first | intro h1 | refine st ?_ | refine Kc ?_ | refine Ka ?_ | refine Kb ?_ ?_ | fail

  all_goals rfl
end Go.Proofs.YtdbcbclapipgdaaGreatDoor
