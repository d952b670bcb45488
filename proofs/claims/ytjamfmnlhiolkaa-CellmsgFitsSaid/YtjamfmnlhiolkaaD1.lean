/- Bits: a reader gets bits. -/
import Derived.Test.YtjamfmnlhiolkaaP
set_option linter.unusedVariables false
set_option linter.unusedSimpArgs false
namespace Go.Proofs.Ytjamfmnlhiolkaa
open Go Av
set_option maxRecDepth 20000
theorem or_bit (k : IntKind) (hk : k = .u64 ∨ k = .i64) {A b : Int} (hA : 0 ≤ A ∧ A ≤ 9223372036854775806) (h2 : A % 2 = 0) (hb : 0 ≤ b ∧ b < 2) : bitv .or k A b = A + b := by
  have h : ((BitVec.ofInt 64 A ||| BitVec.ofInt 64 b).toNat : Int) = A + b := by
    have e1 : (BitVec.ofInt 64 A).toNat = A.toNat := by rw [BitVec.toNat_ofInt]; omega
    have e2 : (BitVec.ofInt 64 b).toNat = b.toNat := by rw [BitVec.toNat_ofInt]; omega
    rw [BitVec.toNat_or, e1, e2]
    obtain ⟨q, hq⟩ : ∃ q, A.toNat = q <<< 1 := ⟨A.toNat / 2, by rw [Nat.shiftLeft_eq]; omega⟩
    rw [hq, ← Nat.shiftLeft_add_eq_or_of_lt (by omega : b.toNat < 2 ^ 1), ← hq]
    omega
  rcases hk with rfl | rfl
  · show IntKind.u64.wrap ((BitVec.ofInt 64 A ||| BitVec.ofInt 64 b).toNat : Int) = _
    rw [h]
    exact wrap_id (by simp [IntKind.min, IntKind.signed]; omega) (by simp [IntKind.max, IntKind.signed, IntKind.bits]; omega)
  · show IntKind.i64.wrap ((BitVec.ofInt 64 A ||| BitVec.ofInt 64 b).toNat : Int) = _
    rw [h]
    exact wrap_id (by simp [IntKind.min, IntKind.signed, IntKind.bits]; omega) (by simp [IntKind.max, IntKind.signed, IntKind.bits]; omega)
/-- A bit of a string. -/
def bitD (d : ByteArray) (i : Nat) : Int := ((byteAt d (i / 8)).toNat : Int) / 2 ^ (7 - i % 8) % 2
/-- The number that w bits from a on are. -/
def rdN (d : ByteArray) (a : Nat) : Nat → Int
  | 0 => 0
  | w + 1 => rdN d a w * 2 + bitD d (a + w)
theorem bitD_bd (d i) : 0 ≤ bitD d i ∧ bitD d i < 2 := by unfold bitD; omega
theorem rdN_bd (d a) : ∀ w, 0 ≤ rdN d a w ∧ rdN d a w < 2 ^ w
  | 0 => by simp [rdN]
  | w + 1 => by
    have h1 := rdN_bd d a w
    have h2 := bitD_bd d (a + w)
    have h3 : (2 : Int) ^ (w + 1) = 2 ^ w * 2 := Int.pow_succ ..
    rw [rdN, h3]
    omega
theorem bv_and1_u8 (x : Int) : bitv .and .u8 x 1 = x % 2 := by
  have h : ((BitVec.ofInt 8 x &&& BitVec.ofInt 8 1).toNat : Int) = x % 2 := by
    rw [BitVec.toNat_and, BitVec.toNat_ofInt, BitVec.toNat_ofInt, show ((1 : Int) % (2 ^ 8 : Nat)).toNat = 1 from rfl, Nat.and_one_is_mod]
    omega
  show IntKind.u8.wrap ((BitVec.ofInt 8 x &&& BitVec.ofInt 8 1).toNat : Int) = _
  rw [h]
  exact wrap_id (by simp [IntKind.min, IntKind.signed]; omega) (by simp [IntKind.max, IntKind.signed, IntKind.bits]; omega)
structure Gg where
  j : Nat
  v : Int
  k : Int
set_option maxHeartbeats 1000000 in
theorem ac_get (w a : Nat) (d : ByteArray) (e : Int) (hw : w ≤ 63) (ha : a + w ≤ 8 * d.size) (hd : d.size ≤ 1000000) : ACalls Try.prog 66 [.pointer (some ⟨0, 0, none⟩), .int .i64 w] [some ⟨[.string d, .int .i64 a, .int .i64 e], true, 1⟩] (.int .u64 (rdN d a w)) [some ⟨[.string d, .int .i64 ((a + w : Nat) : Int), .int .i64 e], true, 1⟩] := by
  refine acalls_of_aw Try.func66 rfl rfl ?_
  repeat' first
    | refine st ?_
    | refine stm ?_
    | refine run_want rfl rfl ?_
    | refine run_unwant rfl rfl ?_
    | refine run_undef rfl rfl ?_
    | refine run_guard1t rfl rfl (by omega) ?_
    | refine run_guard1f rfl rfl (by omega) ?_
    | refine run_guard0t rfl rfl (by omega) ?_
    | refine run_guard0f rfl rfl (by omega) ?_
    | refine run_guard1 rfl rfl (fun h1 => ?_) (fun h1 => ?_)
    | refine run_guard0 rfl rfl (fun h1 => ?_) (fun h1 => ?_)
    | refine run_guard rfl rfl (fun h1 => ?_) (fun h1 => ?_)
    | refine run_nil ?_
    | refine sd ?_
    | refine sdl ?_
    | refine sdm ?_
    | refine sdb ?_
    | refine rund_want rfl rfl ?_
    | refine rund_unwant rfl rfl ?_
    | refine rund_undef rfl rfl ?_
    | refine rund_guard1 rfl rfl (fun h1 => ?_) (fun h1 => ?_)
    | refine rund_guard0 rfl rfl (fun h1 => ?_) (fun h1 => ?_)
    | refine rund_guard rfl rfl (fun h1 => ?_) (fun h1 => ?_)
    | refine rund_nil ?_
    | refine aw_seq ?_
    | refine aw_region (by kernel_rfl) (Nat.le_of_ble_eq_true rfl) ?_
    | refine aw_region_d (id := 4) [0, 1, 0, 4, 12, 28, 0, 64, 192, 448, 960, 2044, 0, 4096, 12288, 28672, 61440, 126976, 262140, 524284, 1048572, 2097151, 4194303] 23 (by kernel_rfl) (by kernel_rfl) (by kernel_rfl) (Nat.le_of_ble_eq_true rfl) ?_
    | refine aw_block ?_
    | refine aw_cond_t rfl ?_
    | refine aw_cond_f rfl ?_
    | refine aw_cond_tp rfl (by omega) ?_
    | refine aw_cond_fp rfl (by omega) ?_
    | refine aw_cond1 rfl (fun h1 => ?_) (fun h1 => ?_)
    | refine aw_cond rfl (fun h1 => ?_) (fun h1 => ?_)
    | refine aw_skip ?_
    | refine aw_exit ?_
    | refine aw_ret ?_
    | refine pp_ret ?_
    | refine pp_normal ?_
  refine aw_loopg
    (S := fun y : Gg => [(0, .pointer (some ⟨0, 0, none⟩)), (5, .int .u64 y.v), (6, .int .i64 w), (7, .int .i64 y.j)])
    (B := fun y : Gg => [some ⟨[.string d, .int .i64 y.k, .int .i64 e], true, 1⟩])
    (R := fun y : Gg => y.j ≤ w ∧ y.v = rdN d a y.j ∧ y.k = ((a + y.j : Nat) : Int))
    (μ := fun y : Gg => w - y.j) ⟨0, 0, a⟩ (fitsD [0]) ⟨Nat.zero_le _, rfl, rfl⟩ ?_
  rintro ⟨j, v, k⟩ ⟨g1, g2, g3⟩
  dsimp only at *
  have hb := rdN_bd d a j
  by_cases hj : j < w
  · have hp : (2 : Int) ^ j ≤ 4611686018427387904 := by
      have h1 : (2 : Nat) ^ j ≤ 2 ^ 62 := Nat.pow_le_pow_right (by omega) (by omega)
      have h3 : ((2 ^ j : Nat) : Int) = (2 : Int) ^ j := by push_cast; rfl
      omega
    have e1 : min (7 - k % 8).toNat IntKind.u8.bits = 7 - (a + j) % 8 := by show min (7 - k % 8).toNat 8 = _; omega
    have e2 : (k / 8).toNat = (a + j) / 8 := by omega
    have e3 := bv_and1_u8 (((byteAt d (k / 8).toNat).toNat : Int) / 2 ^ (min (7 - k % 8).toNat IntKind.u8.bits))
    have e4 : IntKind.u64.wrap (v * 2 ^ (min (Int.toNat 1) IntKind.u64.bits)) = v * 2 := by
      rw [show (2 : Int) ^ (min (Int.toNat 1) IntKind.u64.bits) = 2 from by decide]
      exact wrap_id (by simp [IntKind.min, IntKind.signed]; omega) (by simp [IntKind.max, IntKind.signed, IntKind.bits]; omega)
    have e5 := or_bit .u64 (.inl rfl) (A := v * 2) (b := bitD d (a + j)) (by omega) (by omega) (bitD_bd _ _)
    repeat' first
      | refine st ?_
      | refine stm ?_
      | refine run_want rfl rfl ?_
      | refine run_unwant rfl rfl ?_
      | refine run_undef rfl rfl ?_
      | refine run_guard1t rfl rfl (by omega) ?_
      | refine run_guard1f rfl rfl (by omega) ?_
      | refine run_guard0t rfl rfl (by omega) ?_
      | refine run_guard0f rfl rfl (by omega) ?_
      | refine run_guard1 rfl rfl (fun h1 => ?_) (fun h1 => ?_)
      | refine run_guard0 rfl rfl (fun h1 => ?_) (fun h1 => ?_)
      | refine run_guard rfl rfl (fun h1 => ?_) (fun h1 => ?_)
      | refine run_nil ?_
      | refine sd ?_
      | refine sdl ?_
      | refine sdm ?_
      | refine sdb ?_
      | refine rund_want rfl rfl ?_
      | refine rund_unwant rfl rfl ?_
      | refine rund_undef rfl rfl ?_
      | refine rund_guard1 rfl rfl (fun h1 => ?_) (fun h1 => ?_)
      | refine rund_guard0 rfl rfl (fun h1 => ?_) (fun h1 => ?_)
      | refine rund_guard rfl rfl (fun h1 => ?_) (fun h1 => ?_)
      | refine rund_nil ?_
      | refine aw_seq ?_
      | refine aw_region (by kernel_rfl) (Nat.le_of_ble_eq_true rfl) ?_
      | refine aw_region_d (id := 4) [0, 1, 0, 4, 12, 28, 0, 64, 192, 448, 960, 2044, 0, 4096, 12288, 28672, 61440, 126976, 262140, 524284, 1048572, 2097151, 4194303] 23 (by kernel_rfl) (by kernel_rfl) (by kernel_rfl) (Nat.le_of_ble_eq_true rfl) ?_
      | refine aw_block ?_
      | refine aw_cond_t rfl ?_
      | refine aw_cond_f rfl ?_
      | refine aw_cond_tp rfl (by omega) ?_
      | refine aw_cond_fp rfl (by omega) ?_
      | refine aw_cond1 rfl (fun h1 => ?_) (fun h1 => ?_)
      | refine aw_cond rfl (fun h1 => ?_) (fun h1 => ?_)
      | refine aw_skip ?_
      | refine aw_exit ?_
      | refine aw_ret ?_
      | refine pp_ret ?_
      | refine pp_normal ?_
    refine Exists.intro ⟨j + 1, _, _⟩ ⟨fitsD [0], ⟨hj, ?_, by dsimp only; omega⟩, by dsimp only; omega⟩
    dsimp only
    rw [rdN, ← g2, ← e5]
    refine Eq.trans (b := bitv .or .u64 (IntKind.u64.wrap (v * 2 ^ (min (Int.toNat 1) IntKind.u64.bits))) (IntKind.u64.wrap (bitv .and .u8 (((byteAt d (k / 8).toNat).toNat : Int) / 2 ^ (min (7 - k % 8).toNat IntKind.u8.bits)) 1))) rfl ?_
    rw [e4, e3, e1, e2, bitD, wrap_id (by simp [IntKind.min, IntKind.signed]; omega) (by simp [IntKind.max, IntKind.signed, IntKind.bits]; omega)]
  · obtain rfl : j = w := by omega
    repeat' first
      | refine st ?_
      | refine stm ?_
      | refine run_want rfl rfl ?_
      | refine run_unwant rfl rfl ?_
      | refine run_undef rfl rfl ?_
      | refine run_guard1t rfl rfl (by omega) ?_
      | refine run_guard1f rfl rfl (by omega) ?_
      | refine run_guard0t rfl rfl (by omega) ?_
      | refine run_guard0f rfl rfl (by omega) ?_
      | refine run_guard1 rfl rfl (fun h1 => ?_) (fun h1 => ?_)
      | refine run_guard0 rfl rfl (fun h1 => ?_) (fun h1 => ?_)
      | refine run_guard rfl rfl (fun h1 => ?_) (fun h1 => ?_)
      | refine run_nil ?_
      | refine sd ?_
      | refine sdl ?_
      | refine sdm ?_
      | refine sdb ?_
      | refine rund_want rfl rfl ?_
      | refine rund_unwant rfl rfl ?_
      | refine rund_undef rfl rfl ?_
      | refine rund_guard1 rfl rfl (fun h1 => ?_) (fun h1 => ?_)
      | refine rund_guard0 rfl rfl (fun h1 => ?_) (fun h1 => ?_)
      | refine rund_guard rfl rfl (fun h1 => ?_) (fun h1 => ?_)
      | refine rund_nil ?_
      | refine aw_seq ?_
      | refine aw_region (by kernel_rfl) (Nat.le_of_ble_eq_true rfl) ?_
      | refine aw_region_d (id := 4) [0, 1, 0, 4, 12, 28, 0, 64, 192, 448, 960, 2044, 0, 4096, 12288, 28672, 61440, 126976, 262140, 524284, 1048572, 2097151, 4194303] 23 (by kernel_rfl) (by kernel_rfl) (by kernel_rfl) (Nat.le_of_ble_eq_true rfl) ?_
      | refine aw_block ?_
      | refine aw_cond_t rfl ?_
      | refine aw_cond_f rfl ?_
      | refine aw_cond_tp rfl (by omega) ?_
      | refine aw_cond_fp rfl (by omega) ?_
      | refine aw_cond1 rfl (fun h1 => ?_) (fun h1 => ?_)
      | refine aw_cond rfl (fun h1 => ?_) (fun h1 => ?_)
      | refine aw_skip ?_
      | refine aw_exit ?_
      | refine aw_ret ?_
      | refine pp_ret ?_
      | refine pp_normal ?_
    subst g2 g3
    exact pm_ret _ (renumD [0]) rfl
end Go.Proofs.Ytjamfmnlhiolkaa
