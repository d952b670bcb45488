/- Bits: lengths. -/
import Derived.Test.YtjamfmnlhiolkaaP
set_option linter.unusedVariables false
set_option linter.unusedSimpArgs false
namespace Go.Proofs.Ytjamfmnlhiolkaa
open Go Av
set_option maxRecDepth 20000
theorem ok_shr_lit {P : Program} {ρ : Operand → Option Value} {m : Mem} {d : Option Tmp} {t : TypeId} {pp : String} {af : Array Edge} {g : Option (Nat × Bool)} {xt yt : TypeId} {x y : Operand} {k k' : IntKind} {a b : Int} (c : Int) (hx : ρ x = some (.int k a)) (hy : ρ y = some (.int k' b)) (h : 0 ≤ b) (hc : (2 : Int) ^ (min b.toNat k.bits) = c) :
    OpOK P ⟨d, .binOp .shr xt x y yt, t, pp, af, g⟩ ρ m (.int k (a / c)) m := by
  rw [← hc]
  exact ok_shr hx hy h
/-- How many bits a number has. -/
def bl (x : Nat) : Int := if x = 0 then 0 else (Nat.log2 x : Int) + 1
theorem bl_div (x k : Nat) (h : 2 ^ k ≤ x) : bl x = k + bl (x / 2 ^ k) := by
  have h2 : 0 < 2 ^ k := Nat.pos_of_ne_zero (by simp)
  have hx : x ≠ 0 := by omega
  have hd : x / 2 ^ k ≠ 0 := by have := Nat.div_pos h h2; omega
  unfold bl
  rw [if_neg hx, if_neg hd]
  have e : Nat.log2 x = k + Nat.log2 (x / 2 ^ k) := by
    rw [Nat.log2_eq_iff hx]
    obtain ⟨a, b⟩ := (Nat.log2_eq_iff hd).1 rfl
    generalize Nat.log2 (x / 2 ^ k) = q at a b
    constructor
    · rw [Nat.add_comm, Nat.pow_add]
      exact (Nat.le_div_iff_mul_le h2).1 a
    · rw [show k + q + 1 = (q + 1) + k by omega, Nat.pow_add]
      exact (Nat.div_lt_iff_lt_mul h2).1 b
  rw [e]
  omega
def tab : ByteArray := ⟨(([0, 1, 2, 2, 3, 3, 3, 3, 4, 4, 4, 4, 4, 4, 4, 4, 5, 5, 5, 5, 5, 5, 5, 5, 5, 5, 5, 5, 5, 5, 5, 5, 6, 6, 6, 6, 6, 6, 6, 6, 6, 6, 6, 6, 6, 6, 6, 6, 6, 6, 6, 6, 6, 6, 6, 6, 6, 6, 6, 6, 6, 6, 6, 6].append [7, 7, 7, 7, 7, 7, 7, 7, 7, 7, 7, 7, 7, 7, 7, 7, 7, 7, 7, 7, 7, 7, 7, 7, 7, 7, 7, 7, 7, 7, 7, 7, 7, 7, 7, 7, 7, 7, 7, 7, 7, 7, 7, 7, 7, 7, 7, 7, 7, 7, 7, 7, 7, 7, 7, 7, 7, 7, 7, 7, 7, 7, 7, 7]).append ([8, 8, 8, 8, 8, 8, 8, 8, 8, 8, 8, 8, 8, 8, 8, 8, 8, 8, 8, 8, 8, 8, 8, 8, 8, 8, 8, 8, 8, 8, 8, 8, 8, 8, 8, 8, 8, 8, 8, 8, 8, 8, 8, 8, 8, 8, 8, 8, 8, 8, 8, 8, 8, 8, 8, 8, 8, 8, 8, 8, 8, 8, 8, 8].append [8, 8, 8, 8, 8, 8, 8, 8, 8, 8, 8, 8, 8, 8, 8, 8, 8, 8, 8, 8, 8, 8, 8, 8, 8, 8, 8, 8, 8, 8, 8, 8, 8, 8, 8, 8, 8, 8, 8, 8, 8, 8, 8, 8, 8, 8, 8, 8, 8, 8, 8, 8, 8, 8, 8, 8, 8, 8, 8, 8, 8, 8, 8, 8])).toArray⟩
theorem tab_bl : ∀ y : Fin 256, ((byteAt tab y.val).toNat : Int) = bl y.val := by decide +kernel
theorem tab_bl' (y : Int) (h : 0 ≤ y ∧ y < 256) : bl y.toNat = ((byteAt ⟨(([0, 1, 2, 2, 3, 3, 3, 3, 4, 4, 4, 4, 4, 4, 4, 4, 5, 5, 5, 5, 5, 5, 5, 5, 5, 5, 5, 5, 5, 5, 5, 5, 6, 6, 6, 6, 6, 6, 6, 6, 6, 6, 6, 6, 6, 6, 6, 6, 6, 6, 6, 6, 6, 6, 6, 6, 6, 6, 6, 6, 6, 6, 6, 6].append [7, 7, 7, 7, 7, 7, 7, 7, 7, 7, 7, 7, 7, 7, 7, 7, 7, 7, 7, 7, 7, 7, 7, 7, 7, 7, 7, 7, 7, 7, 7, 7, 7, 7, 7, 7, 7, 7, 7, 7, 7, 7, 7, 7, 7, 7, 7, 7, 7, 7, 7, 7, 7, 7, 7, 7, 7, 7, 7, 7, 7, 7, 7, 7]).append ([8, 8, 8, 8, 8, 8, 8, 8, 8, 8, 8, 8, 8, 8, 8, 8, 8, 8, 8, 8, 8, 8, 8, 8, 8, 8, 8, 8, 8, 8, 8, 8, 8, 8, 8, 8, 8, 8, 8, 8, 8, 8, 8, 8, 8, 8, 8, 8, 8, 8, 8, 8, 8, 8, 8, 8, 8, 8, 8, 8, 8, 8, 8, 8].append [8, 8, 8, 8, 8, 8, 8, 8, 8, 8, 8, 8, 8, 8, 8, 8, 8, 8, 8, 8, 8, 8, 8, 8, 8, 8, 8, 8, 8, 8, 8, 8, 8, 8, 8, 8, 8, 8, 8, 8, 8, 8, 8, 8, 8, 8, 8, 8, 8, 8, 8, 8, 8, 8, 8, 8, 8, 8, 8, 8, 8, 8, 8, 8])).toArray⟩ y.toNat).toNat : Int) := (tab_bl ⟨y.toNat, by omega⟩).symm
theorem bl_step {x : Int} (k c : Nat) (hc : 2 ^ k = c) (h : (c : Int) ≤ x) : bl x.toNat = k + bl (x / c).toNat := by
  obtain ⟨n, rfl⟩ : ∃ n : Nat, x = n := ⟨x.toNat, by omega⟩
  rw [Int.toNat_natCast, bl_div n k (by omega), hc, ← Int.natCast_ediv, Int.toNat_natCast]
theorem bl32 {x : Int} (h : 4294967296 ≤ x) : bl x.toNat = 32 + bl (x / 4294967296).toNat := bl_step 32 4294967296 (by decide) h
theorem bl16 {x : Int} (h : 65536 ≤ x) : bl x.toNat = 16 + bl (x / 65536).toNat := bl_step 16 65536 (by decide) h
theorem bl8 {x : Int} (h : 256 ≤ x) : bl x.toNat = 8 + bl (x / 256).toNat := bl_step 8 256 (by decide) h
theorem ok_conv_u8 {P : Program} {ρ : Operand → Option Value} {m : Mem} {d : Option Tmp} {t : TypeId} {pp : String} {af : Array Edge} {g : Option (Nat × Bool)} {src dst : TypeId} {x : Operand} {k' : IntKind} {b : UInt8} {d0 : TypeDesc} [Ty P src d0] [Ty P dst (.int k')] (hx : ρ x = some (.int .u8 (b.toNat : Int))) (h : k'.min ≤ 0 ∧ 255 ≤ k'.max) :
    OpOK P ⟨d, .convert src dst x, t, pp, af, g⟩ ρ m (.int k' (b.toNat : Int)) m := by
  have := b.toNat_lt
  exact ok_conv_in hx (by omega) (by omega)
set_option maxHeartbeats 1000000 in
theorem ac_len64 (x : Int) (hx : 0 ≤ x ∧ x < 18446744073709551616) : ACalls Try.prog 81 [.int .u64 x] [] (.int .i64 (bl x.toNat)) [] := by
  refine acalls_pure Try.func81 rfl rfl rfl ?_
  repeat' first
    | refine st (h := ok_conv_u8 rfl (by decide)) ?_
    | refine st (h := ok_str_index rfl rfl (show 0 ≤ _ ∧ _ < ((256 : Nat) : Int) from ⟨by omega, by omega⟩)) ?_
    | refine st (h := ok_shr_lit 4294967296 rfl rfl (by decide) (by decide)) ?_
    | refine st (h := ok_shr_lit 65536 rfl rfl (by decide) (by decide)) ?_
    | refine st (h := ok_shr_lit 256 rfl rfl (by decide) (by decide)) ?_
    | refine st ?_
    | refine stm ?_
    | refine run_want rfl rfl ?_
    | refine run_unwant rfl rfl ?_
    | refine run_undef rfl rfl ?_
    | refine run_guard1t rfl rfl (by omega) ?_
    | refine run_guard1f rfl rfl (by omega) ?_
    | refine run_guard0t rfl rfl (by omega) ?_
    | refine run_guard0f rfl rfl (by omega) ?_
    | refine run_guard1 rfl rfl (fun h1 => ?_) (fun h1 => ?_)
    | refine run_guard0 rfl rfl (fun h1 => ?_) (fun h1 => ?_)
    | refine run_guard rfl rfl (fun h1 => ?_) (fun h1 => ?_)
    | refine run_nil ?_
    | refine aw_seq ?_
    | refine aw_region (by kernel_rfl) (Nat.le_of_ble_eq_true rfl) ?_
    | refine aw_block ?_
    | refine aw_cond_t rfl ?_
    | refine aw_cond_f rfl ?_
    | refine aw_cond_tp rfl (by omega) ?_
    | refine aw_cond_fp rfl (by omega) ?_
    | refine aw_cond1 rfl (fun h1 => ?_) (fun h1 => ?_)
    | refine aw_cond rfl (fun h1 => ?_) (fun h1 => ?_)
    | refine aw_skip ?_
    | refine aw_exit ?_
    | refine aw_ret ?_
    | refine pp_ret ?_
    | refine pp_normal ?_
  all_goals
    try rw [bl32 (x := x) (by assumption)]
    first | rw [bl16 (x := x / 4294967296) (by assumption)] | rw [bl16 (x := x) (by assumption)] | skip
    first | rw [bl8 (x := x / 4294967296 / 65536) (by assumption)] | rw [bl8 (x := x / 4294967296) (by assumption)] | rw [bl8 (x := x / 65536) (by assumption)] | rw [bl8 (x := x) (by assumption)] | skip
    rw [tab_bl' _ ⟨by omega, by omega⟩]
    simp only [retOf]
    congr 1
    generalize byteAt _ _ = B
    have hlt : B.toNat < 256 := B.toNat_lt
    rw [wrap64 (by omega)]
    try omega
theorem ac_len (x : Int) (hx : 0 ≤ x ∧ x < 18446744073709551616) : ACalls Try.prog 56 [.int .u64 x] [] (.int .i64 (bl x.toNat)) [] := by
  have h := ac_len64 x hx
  refine acalls_pure Try.func56 rfl rfl rfl ?_
  repeat' first
    | refine st ?_
    | refine st_call (h) ?_
    | refine stm ?_
    | refine run_want rfl rfl ?_
    | refine run_unwant rfl rfl ?_
    | refine run_undef rfl rfl ?_
    | refine run_guard1t rfl rfl (by omega) ?_
    | refine run_guard1f rfl rfl (by omega) ?_
    | refine run_guard0t rfl rfl (by omega) ?_
    | refine run_guard0f rfl rfl (by omega) ?_
    | refine run_guard1 rfl rfl (fun h1 => ?_) (fun h1 => ?_)
    | refine run_guard0 rfl rfl (fun h1 => ?_) (fun h1 => ?_)
    | refine run_guard rfl rfl (fun h1 => ?_) (fun h1 => ?_)
    | refine run_nil ?_
    | refine aw_seq ?_
    | refine aw_region (by kernel_rfl) (Nat.le_of_ble_eq_true rfl) ?_
    | refine aw_block ?_
    | refine aw_cond_t rfl ?_
    | refine aw_cond_f rfl ?_
    | refine aw_cond_tp rfl (by omega) ?_
    | refine aw_cond_fp rfl (by omega) ?_
    | refine aw_cond1 rfl (fun h1 => ?_) (fun h1 => ?_)
    | refine aw_cond rfl (fun h1 => ?_) (fun h1 => ?_)
    | refine aw_skip ?_
    | refine aw_exit ?_
    | refine aw_ret ?_
    | refine pp_ret ?_
    | refine pp_normal ?_
  all_goals rfl
theorem bl_bd (x : Nat) (h : x < 9223372036854775808) : 0 ≤ bl x ∧ bl x ≤ 63 := by
  unfold bl
  split
  · omega
  · rename_i h0
    have : Nat.log2 x < 63 := (Nat.log2_lt h0).2 h
    omega
theorem bl_le (x w : Nat) : bl x ≤ w ↔ x < 2 ^ w := by
  unfold bl
  split
  · rename_i h0
    subst h0
    have : 0 < 2 ^ w := Nat.pos_of_ne_zero (by simp)
    omega
  · rename_i h0
    rw [← Nat.log2_lt h0]
    omega
/-- The least width of a number. -/
def wdth (x : Int) : Int := if x < 0 then 0 else max 1 (bl x.toNat)
structure Wg where
  x : Int
  n : Int
theorem bl_half (x : Int) (h : 2 ≤ x) : bl x.toNat = 1 + bl (x / 2).toNat := bl_step 1 2 (by decide) h
theorem bl_low (x : Int) (h : 0 ≤ x ∧ x < 2) : max 1 (bl x.toNat) = 1 := by
  have : x.toNat = 0 ∨ x.toNat = 1 := by omega
  rcases this with h | h <;> rw [h] <;> decide
theorem bl_pos (x : Int) (h : 1 ≤ x) : 1 ≤ bl x.toNat := by
  unfold bl
  rw [if_neg (by omega)]
  omega
end Go.Proofs.Ytjamfmnlhiolkaa
