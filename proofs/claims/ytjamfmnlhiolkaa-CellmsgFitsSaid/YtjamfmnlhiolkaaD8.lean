/- Bits: the reference reader gets bits. -/
import Derived.Test.YtjamfmnlhiolkaaD3
import Derived.Test.YtjamfmnlhiolkaaC2
set_option linter.unusedVariables false
set_option linter.unusedSimpArgs false
namespace Go.Proofs.Ytjamfmnlhiolkaa
open Go Av
set_option maxRecDepth 20000
/-- The reference's reader has nothing left behind an error. -/
def RR (d : ByteArray) (a : Nat) (e : Int) (d2 : ByteArray) (a2 : Int) : Prop := (e = 0 → d2 = d ∧ a2 = a) ∧ (e ≠ 0 → d2 = ⟨#[]⟩ ∧ a2 = 0)
theorem ac_rrfail (a e c : Int) (d : ByteArray) : ACalls Try.prog 68 [.pointer (some ⟨0, 0, none⟩), .int .i64 c] [some ⟨[.string d, .int .i64 a, .int .i64 e], true, 1⟩] (.tuple #[]) [some ⟨[.string ⟨#[]⟩, .int .i64 0, .int .i64 c], true, 1⟩] := by
  refine acalls_of_aw Try.func68 rfl rfl ?_
  repeat' first
    | refine st ?_
    | refine stm ?_
    | refine run_want rfl rfl ?_
    | refine run_unwant rfl rfl ?_
    | refine run_undef rfl rfl ?_
    | refine run_guard1t rfl rfl (by omega) ?_
    | refine run_guard1f rfl rfl (by omega) ?_
    | refine run_guard0t rfl rfl (by omega) ?_
    | refine run_guard0f rfl rfl (by omega) ?_
    | refine run_guard1 rfl rfl (fun h1 => ?_) (fun h1 => ?_)
    | refine run_guard0 rfl rfl (fun h1 => ?_) (fun h1 => ?_)
    | refine run_guard rfl rfl (fun h1 => ?_) (fun h1 => ?_)
    | refine run_nil ?_
    | refine aw_seq ?_
    | refine aw_region (by kernel_rfl) (Nat.le_of_ble_eq_true rfl) ?_
    | refine aw_block ?_
    | refine aw_cond_t rfl ?_
    | refine aw_cond_f rfl ?_
    | refine aw_cond_tp rfl (by omega) ?_
    | refine aw_cond_fp rfl (by omega) ?_
    | refine aw_cond1 rfl (fun h1 => ?_) (fun h1 => ?_)
    | refine aw_cond rfl (fun h1 => ?_) (fun h1 => ?_)
    | refine aw_skip ?_
    | refine aw_exit ?_
    | refine aw_ret ?_
    | refine pp_ret ?_
    | refine pp_normal ?_
  all_goals first | exact pm_normal _ (renumD [0]) rfl | (exfalso; omega)
theorem ac_rrleft (a e : Int) (d : ByteArray) (ha : 0 ≤ a ∧ a ≤ 8 * d.size) (hd : d.size ≤ 1000000) : ACalls Try.prog 70 [.pointer (some ⟨0, 0, none⟩)] [some ⟨[.string d, .int .i64 a, .int .i64 e], false, 1⟩] (.int .i64 (8 * d.size - a)) [none] := by
  refine acalls_law Try.func70 rfl rfl rfl ?_
  repeat' first
    | refine st ?_
    | refine stm ?_
    | refine run_want rfl rfl ?_
    | refine run_unwant rfl rfl ?_
    | refine run_undef rfl rfl ?_
    | refine run_guard1t rfl rfl (by omega) ?_
    | refine run_guard1f rfl rfl (by omega) ?_
    | refine run_guard0t rfl rfl (by omega) ?_
    | refine run_guard0f rfl rfl (by omega) ?_
    | refine run_guard1 rfl rfl (fun h1 => ?_) (fun h1 => ?_)
    | refine run_guard0 rfl rfl (fun h1 => ?_) (fun h1 => ?_)
    | refine run_guard rfl rfl (fun h1 => ?_) (fun h1 => ?_)
    | refine run_nil ?_
    | refine sd ?_
    | refine sdl ?_
    | refine sdm ?_
    | refine sdb ?_
    | refine rund_want rfl rfl ?_
    | refine rund_unwant rfl rfl ?_
    | refine rund_undef rfl rfl ?_
    | refine rund_guard1 rfl rfl (fun h1 => ?_) (fun h1 => ?_)
    | refine rund_guard0 rfl rfl (fun h1 => ?_) (fun h1 => ?_)
    | refine rund_guard rfl rfl (fun h1 => ?_) (fun h1 => ?_)
    | refine rund_nil ?_
    | refine aw_seq ?_
    | refine aw_region (by kernel_rfl) (Nat.le_of_ble_eq_true rfl) ?_
    | refine aw_region_d (id := 1) [0, 1, 3, 7, 15, 31, 0, 64, 192, 448, 1023, 2047] 12 (by kernel_rfl) (by kernel_rfl) (by kernel_rfl) (Nat.le_of_ble_eq_true rfl) ?_
    | refine aw_block ?_
    | refine aw_cond_t rfl ?_
    | refine aw_cond_f rfl ?_
    | refine aw_cond_tp rfl (by omega) ?_
    | refine aw_cond_fp rfl (by omega) ?_
    | refine aw_cond1 rfl (fun h1 => ?_) (fun h1 => ?_)
    | refine aw_cond rfl (fun h1 => ?_) (fun h1 => ?_)
    | refine aw_skip ?_
    | refine aw_exit ?_
    | refine aw_ret ?_
    | refine pp_ret ?_
    | refine pp_normal ?_
  all_goals first | rfl | (exfalso; omega)
theorem ac_rrnew (d : ByteArray) (hd : d.size ≤ 65536) : ACalls Try.prog 49 [.string d] [] (.pointer (some ⟨0, 0, none⟩)) [some ⟨[.string d, .int .i64 0, .int .i64 0], true, 1⟩] := by
  refine acalls_of_aw Try.func49 rfl rfl ?_
  repeat' first
    | refine st ?_
    | refine stm ?_
    | refine run_want rfl rfl ?_
    | refine run_unwant rfl rfl ?_
    | refine run_undef rfl rfl ?_
    | refine run_guard1t rfl rfl (by omega) ?_
    | refine run_guard1f rfl rfl (by omega) ?_
    | refine run_guard0t rfl rfl (by omega) ?_
    | refine run_guard0f rfl rfl (by omega) ?_
    | refine run_guard1 rfl rfl (fun h1 => ?_) (fun h1 => ?_)
    | refine run_guard0 rfl rfl (fun h1 => ?_) (fun h1 => ?_)
    | refine run_guard rfl rfl (fun h1 => ?_) (fun h1 => ?_)
    | refine run_nil ?_
    | refine aw_seq ?_
    | refine aw_region (by kernel_rfl) (Nat.le_of_ble_eq_true rfl) ?_
    | refine aw_block ?_
    | refine aw_cond_t rfl ?_
    | refine aw_cond_f rfl ?_
    | refine aw_cond_tp rfl (by omega) ?_
    | refine aw_cond_fp rfl (by omega) ?_
    | refine aw_cond1 rfl (fun h1 => ?_) (fun h1 => ?_)
    | refine aw_cond rfl (fun h1 => ?_) (fun h1 => ?_)
    | refine aw_skip ?_
    | refine aw_exit ?_
    | refine aw_ret ?_
    | refine pp_ret ?_
    | refine pp_normal ?_
  all_goals first | exact pm_ret _ (renumD [0]) rfl | (exfalso; omega)
structure Hg where
  j : Nat
  v : Int
  k : Int
set_option maxHeartbeats 1000000 in
theorem ac_rrget0 (w a : Nat) (d : ByteArray) (hw : w ≤ 63) (ha : a + w ≤ 8 * d.size) (hd : d.size ≤ 1000000) : ACalls Try.prog 69 [.pointer (some ⟨0, 0, none⟩), .int .i64 w] [some ⟨[.string d, .int .i64 (a : Int), .int .i64 0], true, 1⟩] (.int .i64 (rdN d a w)) [some ⟨[.string d, .int .i64 ((a + w : Nat) : Int), .int .i64 0], true, 1⟩] := by
  have HL := ac_rrleft a 0 d (by omega) hd
  refine acalls_of_aw Try.func69 rfl rfl ?_
  repeat' first
    | refine st ?_
    | refine stRW [0] HL ?_
    | refine stm ?_
    | refine run_want rfl rfl ?_
    | refine run_unwant rfl rfl ?_
    | refine run_undef rfl rfl ?_
    | refine run_guard1t rfl rfl (by omega) ?_
    | refine run_guard1f rfl rfl (by omega) ?_
    | refine run_guard0t rfl rfl (by omega) ?_
    | refine run_guard0f rfl rfl (by omega) ?_
    | refine run_guard1 rfl rfl (fun h1 => ?_) (fun h1 => ?_)
    | refine run_guard0 rfl rfl (fun h1 => ?_) (fun h1 => ?_)
    | refine run_guard rfl rfl (fun h1 => ?_) (fun h1 => ?_)
    | refine run_nil ?_
    | refine sd ?_
    | refine sdl ?_
    | refine sdm ?_
    | refine sdb ?_
    | refine rund_want rfl rfl ?_
    | refine rund_unwant rfl rfl ?_
    | refine rund_undef rfl rfl ?_
    | refine rund_guard1 rfl rfl (fun h1 => ?_) (fun h1 => ?_)
    | refine rund_guard0 rfl rfl (fun h1 => ?_) (fun h1 => ?_)
    | refine rund_guard rfl rfl (fun h1 => ?_) (fun h1 => ?_)
    | refine rund_nil ?_
    | refine aw_seq ?_
    | refine aw_region (by kernel_rfl) (Nat.le_of_ble_eq_true rfl) ?_
    | refine aw_region_d (id := 10) [0, 1, 0, 4, 12, 28, 0, 64, 192, 448, 960, 2044, 4092, 0, 8192, 24576, 57344, 122880, 253952, 524284, 1048572, 2097151, 4194303] 23 (by kernel_rfl) (by kernel_rfl) (by kernel_rfl) (Nat.le_of_ble_eq_true rfl) ?_
    | refine aw_block ?_
    | refine aw_cond_t rfl ?_
    | refine aw_cond_f rfl ?_
    | refine aw_cond_tp rfl (by omega) ?_
    | refine aw_cond_fp rfl (by omega) ?_
    | refine aw_cond1 rfl (fun h1 => ?_) (fun h1 => ?_)
    | refine aw_cond rfl (fun h1 => ?_) (fun h1 => ?_)
    | refine aw_skip ?_
    | refine aw_exit ?_
    | refine aw_ret ?_
    | refine pp_ret ?_
    | refine pp_normal ?_
  refine aw_loopg
    (S := fun y : Hg => [(0, .pointer (some ⟨0, 0, none⟩)), (1, .int .i64 w), (5, .int .i64 y.v), (6, .int .i64 y.j)])
    (B := fun y : Hg => [some ⟨[.string d, .int .i64 y.k, .int .i64 0], true, 1⟩])
    (R := fun y : Hg => y.j ≤ w ∧ y.v = rdN d a y.j ∧ y.k = ((a + y.j : Nat) : Int))
    (μ := fun y : Hg => w - y.j) ⟨0, 0, a⟩ (fitsD [0]) ⟨Nat.zero_le _, rfl, rfl⟩ ?_
  rintro ⟨j, v, k⟩ ⟨g1, g2, g3⟩
  dsimp only at *
  have hb := rdN_bd d a j
  by_cases hj : j < w
  · have hp : (2 : Int) ^ j ≤ 4611686018427387904 := by
      have h1 : (2 : Nat) ^ j ≤ 2 ^ 62 := Nat.pow_le_pow_right (by omega) (by omega)
      have h3 : ((2 ^ j : Nat) : Int) = (2 : Int) ^ j := by push_cast; rfl
      omega
    have e1 : min (7 - k % 8).toNat IntKind.i64.bits = 7 - (a + j) % 8 := by show min (7 - k % 8).toNat 64 = _; omega
    have e2 : (k / 8).toNat = (a + j) / 8 := by omega
    have e3 := bv_and1 .i64 (.inr rfl) (((byteAt d (k / 8).toNat).toNat : Int) / 2 ^ (min (7 - k % 8).toNat IntKind.i64.bits))
    have e4 : IntKind.i64.wrap (v * 2 ^ (min (Int.toNat 1) IntKind.i64.bits)) = v * 2 := by
      rw [show (2 : Int) ^ (min (Int.toNat 1) IntKind.i64.bits) = 2 from by decide]
      exact wrap_id (by simp [IntKind.min, IntKind.signed, IntKind.bits]; omega) (by simp [IntKind.max, IntKind.signed, IntKind.bits]; omega)
    have e5 := or_bit .i64 (.inr rfl) (A := v * 2) (b := bitD d (a + j)) (by omega) (by omega) (bitD_bd _ _)
    repeat' first
      | refine st (h := ok_conv_u8 rfl (by decide)) ?_
      | refine sd (h := ok_conv_u8 rfl (by decide)) ?_
      | refine sdl (h := ok_conv_u8 rfl (by decide)) ?_
      | refine st ?_
      | refine stm ?_
      | refine run_want rfl rfl ?_
      | refine run_unwant rfl rfl ?_
      | refine run_undef rfl rfl ?_
      | refine run_guard1t rfl rfl (by omega) ?_
      | refine run_guard1f rfl rfl (by omega) ?_
      | refine run_guard0t rfl rfl (by omega) ?_
      | refine run_guard0f rfl rfl (by omega) ?_
      | refine run_guard1 rfl rfl (fun h1 => ?_) (fun h1 => ?_)
      | refine run_guard0 rfl rfl (fun h1 => ?_) (fun h1 => ?_)
      | refine run_guard rfl rfl (fun h1 => ?_) (fun h1 => ?_)
      | refine run_nil ?_
      | refine sd ?_
      | refine sdl ?_
      | refine sdm ?_
      | refine sdb ?_
      | refine rund_want rfl rfl ?_
      | refine rund_unwant rfl rfl ?_
      | refine rund_undef rfl rfl ?_
      | refine rund_guard1 rfl rfl (fun h1 => ?_) (fun h1 => ?_)
      | refine rund_guard0 rfl rfl (fun h1 => ?_) (fun h1 => ?_)
      | refine rund_guard rfl rfl (fun h1 => ?_) (fun h1 => ?_)
      | refine rund_nil ?_
      | refine aw_seq ?_
      | refine aw_region (by kernel_rfl) (Nat.le_of_ble_eq_true rfl) ?_
      | refine aw_region_d (id := 10) [0, 1, 0, 4, 12, 28, 0, 64, 192, 448, 960, 2044, 4092, 0, 8192, 24576, 57344, 122880, 253952, 524284, 1048572, 2097151, 4194303] 23 (by kernel_rfl) (by kernel_rfl) (by kernel_rfl) (Nat.le_of_ble_eq_true rfl) ?_
      | refine aw_block ?_
      | refine aw_cond_t rfl ?_
      | refine aw_cond_f rfl ?_
      | refine aw_cond_tp rfl (by omega) ?_
      | refine aw_cond_fp rfl (by omega) ?_
      | refine aw_cond1 rfl (fun h1 => ?_) (fun h1 => ?_)
      | refine aw_cond rfl (fun h1 => ?_) (fun h1 => ?_)
      | refine aw_skip ?_
      | refine aw_exit ?_
      | refine aw_ret ?_
      | refine pp_ret ?_
      | refine pp_normal ?_
    refine Exists.intro ⟨j + 1, _, _⟩ ⟨fitsD [0], ⟨hj, ?_, by dsimp only; omega⟩, by dsimp only; omega⟩
    dsimp only
    rw [rdN, ← g2, ← e5]
    refine Eq.trans (b := bitv .or .i64 (IntKind.i64.wrap (v * 2 ^ (min (Int.toNat 1) IntKind.i64.bits))) (bitv .and .i64 (((byteAt d (k / 8).toNat).toNat : Int) / 2 ^ (min (7 - k % 8).toNat IntKind.i64.bits)) 1)) rfl ?_
    rw [e4, e3, e1, e2, bitD]
  · obtain rfl : j = w := by omega
    repeat' first
      | refine st ?_
      | refine stm ?_
      | refine run_want rfl rfl ?_
      | refine run_unwant rfl rfl ?_
      | refine run_undef rfl rfl ?_
      | refine run_guard1t rfl rfl (by omega) ?_
      | refine run_guard1f rfl rfl (by omega) ?_
      | refine run_guard0t rfl rfl (by omega) ?_
      | refine run_guard0f rfl rfl (by omega) ?_
      | refine run_guard1 rfl rfl (fun h1 => ?_) (fun h1 => ?_)
      | refine run_guard0 rfl rfl (fun h1 => ?_) (fun h1 => ?_)
      | refine run_guard rfl rfl (fun h1 => ?_) (fun h1 => ?_)
      | refine run_nil ?_
      | refine sd ?_
      | refine sdl ?_
      | refine sdm ?_
      | refine sdb ?_
      | refine rund_want rfl rfl ?_
      | refine rund_unwant rfl rfl ?_
      | refine rund_undef rfl rfl ?_
      | refine rund_guard1 rfl rfl (fun h1 => ?_) (fun h1 => ?_)
      | refine rund_guard0 rfl rfl (fun h1 => ?_) (fun h1 => ?_)
      | refine rund_guard rfl rfl (fun h1 => ?_) (fun h1 => ?_)
      | refine rund_nil ?_
      | refine aw_seq ?_
      | refine aw_region (by kernel_rfl) (Nat.le_of_ble_eq_true rfl) ?_
      | refine aw_region_d (id := 10) [0, 1, 0, 4, 12, 28, 0, 64, 192, 448, 960, 2044, 4092, 0, 8192, 24576, 57344, 122880, 253952, 524284, 1048572, 2097151, 4194303] 23 (by kernel_rfl) (by kernel_rfl) (by kernel_rfl) (Nat.le_of_ble_eq_true rfl) ?_
      | refine aw_block ?_
      | refine aw_cond_t rfl ?_
      | refine aw_cond_f rfl ?_
      | refine aw_cond_tp rfl (by omega) ?_
      | refine aw_cond_fp rfl (by omega) ?_
      | refine aw_cond1 rfl (fun h1 => ?_) (fun h1 => ?_)
      | refine aw_cond rfl (fun h1 => ?_) (fun h1 => ?_)
      | refine aw_skip ?_
      | refine aw_exit ?_
      | refine aw_ret ?_
      | refine pp_ret ?_
      | refine pp_normal ?_
    subst g2 g3
    exact pm_ret _ (renumD [0]) rfl
theorem ac_rrget (w e e' v : Int) (a a' : Nat) (d d2 d2' : ByteArray) (a2 a2' : Int) (hst : fieldR d a e true w = (v, a', e')) (hr : RR d a e d2 a2) (hr' : RR d a' e' d2' a2') (ha : a ≤ 8 * d.size) (hd : d.size ≤ 1000000) (hw : e = 0 → 0 ≤ w ∧ w ≤ 63) : ACalls Try.prog 69 [.pointer (some ⟨0, 0, none⟩), .int .i64 w] [some ⟨[.string d2, .int .i64 a2, .int .i64 e], true, 1⟩] (.int .i64 v) [some ⟨[.string d2', .int .i64 a2', .int .i64 e'], true, 1⟩] := by
  unfold fieldR at hst
  by_cases he : e = 0
  · subst he
    rw [if_neg (by simp), if_neg (by simp)] at hst
    have hw := hw rfl
    obtain ⟨rfl, rfl⟩ := hr.1 rfl
    have HL := ac_rrleft a 0 d2 (by omega) hd
    by_cases hs : (8 * d2.size : Int) - a < w
    · rw [if_pos hs] at hst
      simp only [Prod.mk.injEq] at hst
      obtain ⟨rfl, rfl, rfl⟩ := hst
      obtain ⟨rfl, rfl⟩ := hr'.2 (by decide)
      have HX := ac_rrfail a 0 9 d2
      refine acalls_of_aw Try.func69 rfl rfl ?_
      repeat' first
        | refine st ?_
        | refine stRW [0] HL ?_
        | refine stMW [0] HX ?_
        | refine stm ?_
        | refine run_want rfl rfl ?_
        | refine run_unwant rfl rfl ?_
        | refine run_undef rfl rfl ?_
        | refine run_guard1t rfl rfl (by omega) ?_
        | refine run_guard1f rfl rfl (by omega) ?_
        | refine run_guard0t rfl rfl (by omega) ?_
        | refine run_guard0f rfl rfl (by omega) ?_
        | refine run_guard1 rfl rfl (fun h1 => ?_) (fun h1 => ?_)
        | refine run_guard0 rfl rfl (fun h1 => ?_) (fun h1 => ?_)
        | refine run_guard rfl rfl (fun h1 => ?_) (fun h1 => ?_)
        | refine run_nil ?_
        | refine sd ?_
        | refine sdl ?_
        | refine sdm ?_
        | refine sdb ?_
        | refine rund_want rfl rfl ?_
        | refine rund_unwant rfl rfl ?_
        | refine rund_undef rfl rfl ?_
        | refine rund_guard1 rfl rfl (fun h1 => ?_) (fun h1 => ?_)
        | refine rund_guard0 rfl rfl (fun h1 => ?_) (fun h1 => ?_)
        | refine rund_guard rfl rfl (fun h1 => ?_) (fun h1 => ?_)
        | refine rund_nil ?_
        | refine aw_seq ?_
        | refine aw_region (by kernel_rfl) (Nat.le_of_ble_eq_true rfl) ?_
        | refine aw_region_d (id := 10) [0, 1, 0, 4, 12, 28, 0, 64, 192, 448, 960, 2044, 4092, 0, 8192, 24576, 57344, 122880, 253952, 524284, 1048572, 2097151, 4194303] 23 (by kernel_rfl) (by kernel_rfl) (by kernel_rfl) (Nat.le_of_ble_eq_true rfl) ?_
        | refine aw_block ?_
        | refine aw_cond_t rfl ?_
        | refine aw_cond_f rfl ?_
        | refine aw_cond_tp rfl (by omega) ?_
        | refine aw_cond_fp rfl (by omega) ?_
        | refine aw_cond1 rfl (fun h1 => ?_) (fun h1 => ?_)
        | refine aw_cond rfl (fun h1 => ?_) (fun h1 => ?_)
        | refine aw_skip ?_
        | refine aw_exit ?_
        | refine aw_ret ?_
        | refine pp_ret ?_
        | refine pp_normal ?_
      all_goals first | exact pm_ret _ (renumD [0]) rfl | (exfalso; omega)
    · rw [if_neg hs] at hst
      simp only [Prod.mk.injEq] at hst
      obtain ⟨rfl, rfl, rfl⟩ := hst
      obtain ⟨rfl, rfl⟩ := hr'.1 rfl
      have := ac_rrget0 w.toNat a d2' (by omega) (by omega) hd
      rwa [show ((w.toNat : Nat) : Int) = w by omega] at this
  · rw [if_pos he] at hst
    simp only [Prod.mk.injEq] at hst
    obtain ⟨rfl, rfl, rfl⟩ := hst
    obtain ⟨rfl, rfl⟩ := hr.2 he
    obtain ⟨rfl, rfl⟩ := hr'.2 he
    refine acalls_of_aw Try.func69 rfl rfl ?_
    repeat' first
      | refine st ?_
      | refine stm ?_
      | refine run_want rfl rfl ?_
      | refine run_unwant rfl rfl ?_
      | refine run_undef rfl rfl ?_
      | refine run_guard1t rfl rfl (by omega) ?_
      | refine run_guard1f rfl rfl (by omega) ?_
      | refine run_guard0t rfl rfl (by omega) ?_
      | refine run_guard0f rfl rfl (by omega) ?_
      | refine run_guard1 rfl rfl (fun h1 => ?_) (fun h1 => ?_)
      | refine run_guard0 rfl rfl (fun h1 => ?_) (fun h1 => ?_)
      | refine run_guard rfl rfl (fun h1 => ?_) (fun h1 => ?_)
      | refine run_nil ?_
      | refine sd ?_
      | refine sdl ?_
      | refine sdm ?_
      | refine sdb ?_
      | refine rund_want rfl rfl ?_
      | refine rund_unwant rfl rfl ?_
      | refine rund_undef rfl rfl ?_
      | refine rund_guard1 rfl rfl (fun h1 => ?_) (fun h1 => ?_)
      | refine rund_guard0 rfl rfl (fun h1 => ?_) (fun h1 => ?_)
      | refine rund_guard rfl rfl (fun h1 => ?_) (fun h1 => ?_)
      | refine rund_nil ?_
      | refine aw_seq ?_
      | refine aw_region (by kernel_rfl) (Nat.le_of_ble_eq_true rfl) ?_
      | refine aw_region_d (id := 10) [0, 1, 0, 4, 12, 28, 0, 64, 192, 448, 960, 2044, 4092, 0, 8192, 24576, 57344, 122880, 253952, 524284, 1048572, 2097151, 4194303] 23 (by kernel_rfl) (by kernel_rfl) (by kernel_rfl) (Nat.le_of_ble_eq_true rfl) ?_
      | refine aw_block ?_
      | refine aw_cond_t rfl ?_
      | refine aw_cond_f rfl ?_
      | refine aw_cond_tp rfl (by omega) ?_
      | refine aw_cond_fp rfl (by omega) ?_
      | refine aw_cond1 rfl (fun h1 => ?_) (fun h1 => ?_)
      | refine aw_cond rfl (fun h1 => ?_) (fun h1 => ?_)
      | refine aw_skip ?_
      | refine aw_exit ?_
      | refine aw_ret ?_
      | refine pp_ret ?_
      | refine pp_normal ?_
    all_goals first | exact pm_ret _ (renumD [0]) rfl | (exfalso; omega)
end Go.Proofs.Ytjamfmnlhiolkaa
