/- Bits: the reference puts bits. -/
import Derived.Test.YtjamfmnlhiolkaaP
set_option linter.unusedVariables false
set_option linter.unusedSimpArgs false
namespace Go.Proofs.Ytjamfmnlhiolkaa
open Go Av
set_option maxRecDepth 20000
structure Qg where
  i : Int
  bs : List Int
  n : Nat
set_option maxHeartbeats 2000000 in
theorem ac_rput (w : Nat) (x e : Int) (bs bs' : List Int) (n n' : Nat) (hx : -9223372036854775808 ≤ x ∧ x ≤ 9223372036854775807) (hw : w ≤ 63) (hn : n = bs.length) (hb : bs ++ bitsOf w x = bs') (hn' : n' = bs'.length) (hle : bs'.length ≤ 600000) :
    ACalls Try.prog 58 [.pointer (some ⟨0, 0, none⟩), .int .i64 w, .int .i64 x] [some ⟨[.slice (some ⟨1, 0, none⟩) n n, .int .i64 e], true, 1⟩, some ⟨List.map (Value.int .u8) bs, true, 1⟩] (.tuple #[]) [some ⟨[.slice (some ⟨2, 0, none⟩) n' n', .int .i64 e], true, 1⟩, none, some ⟨List.map (Value.int .u8) bs', true, 1⟩] := by
  have hbl : bs'.length = bs.length + w := by rw [← hb, List.length_append, bitsOf_len]
  refine acalls_of_aw Try.func58 rfl rfl ?_
  repeat' first
    | refine st ?_
    | refine stm ?_
    | refine run_want rfl rfl ?_
    | refine run_unwant rfl rfl ?_
    | refine run_undef rfl rfl ?_
    | refine run_guard1t rfl rfl (by omega) ?_
    | refine run_guard1f rfl rfl (by omega) ?_
    | refine run_guard0t rfl rfl (by omega) ?_
    | refine run_guard0f rfl rfl (by omega) ?_
    | refine run_guard1 rfl rfl (fun h1 => ?_) (fun h1 => ?_)
    | refine run_guard0 rfl rfl (fun h1 => ?_) (fun h1 => ?_)
    | refine run_guard rfl rfl (fun h1 => ?_) (fun h1 => ?_)
    | refine run_nil ?_
    | refine sd ?_
    | refine sdl ?_
    | refine sdm ?_
    | refine sdb ?_
    | refine rund_want rfl rfl ?_
    | refine rund_unwant rfl rfl ?_
    | refine rund_undef rfl rfl ?_
    | refine rund_guard1 rfl rfl (fun h1 => ?_) (fun h1 => ?_)
    | refine rund_guard0 rfl rfl (fun h1 => ?_) (fun h1 => ?_)
    | refine rund_guard rfl rfl (fun h1 => ?_) (fun h1 => ?_)
    | refine rund_nil ?_
    | refine aw_seq ?_
    | refine aw_region (by kernel_rfl) (Nat.le_of_ble_eq_true rfl) ?_
    | refine aw_region_d (id := 3) [0, 0, 2, 6, 14, 0, 0, 96, 224, 480, 992, 2046, 4095, 8191, 16383] 11 (by kernel_rfl) (by kernel_rfl) (by kernel_rfl) (Nat.le_of_ble_eq_true rfl) ?_
    | refine aw_block ?_
    | refine aw_cond_t rfl ?_
    | refine aw_cond_f rfl ?_
    | refine aw_cond_tp rfl (by omega) ?_
    | refine aw_cond_fp rfl (by omega) ?_
    | refine aw_cond1 rfl (fun h1 => ?_) (fun h1 => ?_)
    | refine aw_cond rfl (fun h1 => ?_) (fun h1 => ?_)
    | refine aw_skip ?_
    | refine aw_exit ?_
    | refine aw_ret ?_
    | refine pp_ret ?_
    | refine pp_normal ?_
  refine aw_loopg
    (S := fun y : Qg => [(0, .pointer (some ⟨0, 0, none⟩)), (2, .int .i64 x), (6, .int .i64 y.i)])
    (B := fun y : Qg => [some ⟨[.slice (some ⟨2, 0, none⟩) y.n y.n, .int .i64 e], true, 1⟩, none, some ⟨List.map (Value.int .u8) y.bs, true, 1⟩])
    (R := fun y : Qg => -1 ≤ y.i ∧ y.i < w ∧ y.n = y.bs.length ∧ y.bs ++ bitsOf (y.i + 1).toNat x = bs')
    (μ := fun y : Qg => (y.i + 1).toNat) ⟨(w : Int) - 1, bs, n⟩ (fitsD [0, 1, 1]) ⟨by dsimp only; omega, by dsimp only; omega, hn, by dsimp only; rw [show ((w : Int) - 1 + 1).toNat = w by omega]; exact hb⟩ ?_
  clear hn hb
  rintro ⟨i, bs, n⟩ ⟨g1, g2, hn, hb⟩
  dsimp only at *
  have hl2 : bs.length + (i + 1).toNat = bs'.length := by rw [← hb, List.length_append, bitsOf_len]
  by_cases hi : 0 ≤ i
  · have hb1 : bs ++ [x / 2 ^ i.toNat % 2] ++ bitsOf i.toNat x = bs' := by
      rw [← hb, show (i + 1).toNat = i.toNat + 1 by omega, bitsOf, List.append_assoc]
      rfl
    have ha := bv_and1 .i64 (.inr rfl) (x / 2 ^ (min i.toNat IntKind.i64.bits))
    have e3 : min i.toNat IntKind.i64.bits = i.toNat := Nat.min_eq_left (by show i.toNat ≤ 64; omega)
    have e4 : IntKind.u8.wrap (x / 2 ^ i.toNat % 2) = x / 2 ^ i.toNat % 2 := wrap_id (by simp [IntKind.min, IntKind.signed]; omega) (by simp [IntKind.max, IntKind.signed, IntKind.bits]; omega)
    rw [e3] at ha
    have hq : List.take (n * 1) (List.drop 0 (List.map (Value.int .u8) bs)) = List.map (Value.int .u8) bs := take_full (by simp; omega)
    repeat' first
      | refine st ?_
      | refine stm ?_
      | refine run_want rfl rfl ?_
      | refine run_unwant rfl rfl ?_
      | refine run_undef rfl rfl ?_
      | refine run_guard1t rfl rfl (by omega) ?_
      | refine run_guard1f rfl rfl (by omega) ?_
      | refine run_guard0t rfl rfl (by omega) ?_
      | refine run_guard0f rfl rfl (by omega) ?_
      | refine run_guard1 rfl rfl (fun h1 => ?_) (fun h1 => ?_)
      | refine run_guard0 rfl rfl (fun h1 => ?_) (fun h1 => ?_)
      | refine run_guard rfl rfl (fun h1 => ?_) (fun h1 => ?_)
      | refine run_nil ?_
      | refine sd ?_
      | refine sdl ?_
      | refine sdm ?_
      | refine sdb ?_
      | refine rund_want rfl rfl ?_
      | refine rund_unwant rfl rfl ?_
      | refine rund_undef rfl rfl ?_
      | refine rund_guard1 rfl rfl (fun h1 => ?_) (fun h1 => ?_)
      | refine rund_guard0 rfl rfl (fun h1 => ?_) (fun h1 => ?_)
      | refine rund_guard rfl rfl (fun h1 => ?_) (fun h1 => ?_)
      | refine rund_nil ?_
      | refine aw_seq ?_
      | refine aw_region (by kernel_rfl) (Nat.le_of_ble_eq_true rfl) ?_
      | refine aw_region_d (id := 3) [0, 0, 2, 6, 14, 0, 0, 96, 224, 480, 992, 2046, 4095, 8191, 16383] 11 (by kernel_rfl) (by kernel_rfl) (by kernel_rfl) (Nat.le_of_ble_eq_true rfl) ?_
      | refine aw_block ?_
      | refine aw_cond_t rfl ?_
      | refine aw_cond_f rfl ?_
      | refine aw_cond_tp rfl (by omega) ?_
      | refine aw_cond_fp rfl (by omega) ?_
      | refine aw_cond1 rfl (fun h1 => ?_) (fun h1 => ?_)
      | refine aw_cond rfl (fun h1 => ?_) (fun h1 => ?_)
      | refine aw_skip ?_
      | refine aw_exit ?_
      | refine aw_ret ?_
      | refine pp_ret ?_
      | refine pp_normal ?_
    refine Exists.intro ⟨i - 1, bs ++ [x / 2 ^ i.toNat % 2], _⟩ ⟨fitsD [0, 1, 4] (h4 := .blk rfl (WkL.refl _) rfl (.hole (.blk rfl (.ofEq (by
      refine Eq.trans ?_ (renL_map (fun _ => rfl) _).symm
      dsimp only
      rw [List.map_append]
      simp only [e3, ha, e4]
      rfl)) rfl .nil))), ⟨by dsimp only; omega, by dsimp only; omega, ?_, ?_⟩, by dsimp only; omega⟩
    · dsimp only
      rw [List.length_append, List.length_singleton]
      omega
    · dsimp only
      rw [show (i - 1 + 1).toNat = i.toNat by omega]
      exact hb1
  · obtain rfl : i = -1 := by omega
    repeat' first
      | refine st ?_
      | refine stm ?_
      | refine run_want rfl rfl ?_
      | refine run_unwant rfl rfl ?_
      | refine run_undef rfl rfl ?_
      | refine run_guard1t rfl rfl (by omega) ?_
      | refine run_guard1f rfl rfl (by omega) ?_
      | refine run_guard0t rfl rfl (by omega) ?_
      | refine run_guard0f rfl rfl (by omega) ?_
      | refine run_guard1 rfl rfl (fun h1 => ?_) (fun h1 => ?_)
      | refine run_guard0 rfl rfl (fun h1 => ?_) (fun h1 => ?_)
      | refine run_guard rfl rfl (fun h1 => ?_) (fun h1 => ?_)
      | refine run_nil ?_
      | refine sd ?_
      | refine sdl ?_
      | refine sdm ?_
      | refine sdb ?_
      | refine rund_want rfl rfl ?_
      | refine rund_unwant rfl rfl ?_
      | refine rund_undef rfl rfl ?_
      | refine rund_guard1 rfl rfl (fun h1 => ?_) (fun h1 => ?_)
      | refine rund_guard0 rfl rfl (fun h1 => ?_) (fun h1 => ?_)
      | refine rund_guard rfl rfl (fun h1 => ?_) (fun h1 => ?_)
      | refine rund_nil ?_
      | refine aw_seq ?_
      | refine aw_region (by kernel_rfl) (Nat.le_of_ble_eq_true rfl) ?_
      | refine aw_region_d (id := 3) [0, 0, 2, 6, 14, 0, 0, 96, 224, 480, 992, 2046, 4095, 8191, 16383] 11 (by kernel_rfl) (by kernel_rfl) (by kernel_rfl) (Nat.le_of_ble_eq_true rfl) ?_
      | refine aw_block ?_
      | refine aw_cond_t rfl ?_
      | refine aw_cond_f rfl ?_
      | refine aw_cond_tp rfl (by omega) ?_
      | refine aw_cond_fp rfl (by omega) ?_
      | refine aw_cond1 rfl (fun h1 => ?_) (fun h1 => ?_)
      | refine aw_cond rfl (fun h1 => ?_) (fun h1 => ?_)
      | refine aw_skip ?_
      | refine aw_exit ?_
      | refine aw_ret ?_
      | refine pp_ret ?_
      | refine pp_normal ?_
    have hbb : bs = bs' := by rw [← hb]; simp [bitsOf]
    subst hbb
    subst hn hn'
    exact pm_normal _ (renumD [0, 1, 2]) rfl
end Go.Proofs.Ytjamfmnlhiolkaa
