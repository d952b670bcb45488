/- Digest: the reference's compression. -/
import Derived.Test.YtnicgkhffingmaaD1
import Derived.Test.YtnicgkhffingmaaD2
set_option linter.unusedVariables false
set_option linter.unusedSimpArgs false
namespace Go.Proofs.Ytnicgkhffingmaa
open Go Av
set_option maxRecDepth 20000
theorem aw_cutc {P : Program} {nt n0 : Nat} {x y : Code} {Q : Exit → Slots → Mem → Prop} {σ : Slots} {m : Mem} (σ1 : Slots) (m1 : Mem) (hx : AW P nt n0 x (ThenA (Fits n0 σ1 m1) Q) σ m) (hy : AW P nt n0 y Q σ1 m1) : AW P nt n0 x (ThenA (AW P nt n0 y Q) Q) σ m :=
  hx.mono fun e σ' m' h => by
    cases e with
    | normal => exact aw_fits h hy
    | _ => exact h
def tbl : List Int := [0, 1, 2, 3, 4, 5, 6, 7, 8, 9, 10, 11, 12, 13, 14, 15, 14, 10, 4, 8, 9, 15, 13, 6, 1, 12, 0, 2, 11, 7, 5, 3, 11, 8, 12, 0, 5, 2, 15, 13, 10, 14, 3, 6, 7, 1, 9, 4, 7, 9, 3, 1, 13, 12, 11, 14, 2, 6, 5, 10, 4, 0, 15, 8, 9, 0, 5, 7, 2, 4, 10, 15, 14, 1, 11, 12, 6, 8, 3, 13, 2, 12, 6, 10, 0, 11, 8, 3, 4, 13, 7, 5, 15, 14, 1, 9, 12, 5, 1, 15, 14, 13, 4, 10, 0, 7, 6, 3, 9, 2, 8, 11, 13, 11, 7, 14, 12, 1, 3, 9, 5, 0, 15, 4, 8, 6, 2, 10, 6, 15, 14, 9, 11, 3, 0, 8, 12, 2, 13, 7, 1, 4, 10, 5, 10, 2, 8, 4, 7, 6, 1, 5, 15, 11, 9, 14, 3, 12, 13, 0]
theorem tbl_sg : ∀ r, r < 10 → ∀ j, j < 16 → tbl.getD (r * 16 + j) 0 = sg r j := by decide +kernel
theorem x32_assoc (a b c : Int) : x32 (x32 a b) c = x32 a (x32 b c) := by
  have h : ∀ z : BitVec 32, BitVec.ofInt 32 (IntKind.u32.wrap (z.toNat : Int)) = z := fun z => by
    have hz := z.isLt
    rw [wrap_id (by simp [IntKind.min, IntKind.signed]) (by simp [IntKind.max, IntKind.signed, IntKind.bits]; omega)]
    simp
  show IntKind.u32.wrap (BitVec.ofInt 32 (IntKind.u32.wrap (BitVec.ofInt 32 a ^^^ BitVec.ofInt 32 b).toNat) ^^^ BitVec.ofInt 32 c).toNat = IntKind.u32.wrap (BitVec.ofInt 32 a ^^^ BitVec.ofInt 32 (IntKind.u32.wrap (BitVec.ofInt 32 b ^^^ BitVec.ofInt 32 c).toNat)).toNat
  rw [h, h, BitVec.xor_assoc]
theorem ord_take (i : Nat) (h : i < 8) : TakeR [.int .i64 0, .int .i64 4, .int .i64 8, .int .i64 12, .int .i64 1, .int .i64 5, .int .i64 9, .int .i64 13, .int .i64 2, .int .i64 6, .int .i64 10, .int .i64 14, .int .i64 3, .int .i64 7, .int .i64 11, .int .i64 15, .int .i64 0, .int .i64 5, .int .i64 10, .int .i64 15, .int .i64 1, .int .i64 6, .int .i64 11, .int .i64 12, .int .i64 2, .int .i64 7, .int .i64 8, .int .i64 13, .int .i64 3, .int .i64 4, .int .i64 9, .int .i64 14] (0 + (i : Int).toNat * 4) 4 [.int .i64 (ln i 0), .int .i64 (ln i 1), .int .i64 (ln i 2), .int .i64 (ln i 3)] := by
  rcases h8 i h with rfl | rfl | rfl | rfl | rfl | rfl | rfl | rfl
  all_goals repeat constructor
structure Rg where
  r : Int
  V : List Int
end Go.Proofs.Ytnicgkhffingmaa
