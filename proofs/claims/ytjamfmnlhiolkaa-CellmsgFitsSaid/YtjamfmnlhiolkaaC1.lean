/- Bits: put walked. -/
import Derived.Test.YtjamfmnlhiolkaaP
set_option linter.unusedVariables false
set_option linter.unusedSimpArgs false
namespace Go.Proofs.Ytjamfmnlhiolkaa
open Go Av
set_option maxRecDepth 20000
structure Pg where
  i : Int
  bs : List Int
  Z : List Int
  n : Nat
  k : Int
set_option maxHeartbeats 2000000 in
theorem ac_put (w : Nat) (x e : Int) (bs bs' Z Z' : List Int) (n n' : Nat) (k k' : Int) (hx : 0 ≤ x) (hw : w ≤ 64) (hZ : pack bs = Z) (hn : n = Z.length) (hk : k = bs.length) (hb : bs ++ bitsOf w x = bs') (hZ' : pack bs' = Z') (hn' : n' = Z'.length) (hk' : k' = bs'.length) (hle : bs'.length ≤ 600000) :
    ACalls Try.prog 79 [.pointer (some ⟨0, 0, none⟩), .int .i64 w, .int .u64 x] [some ⟨[.slice (some ⟨1, 0, none⟩) n n, .int .i64 k, .int .i64 e], true, 1⟩, some ⟨List.map (Value.int .u8) Z, true, 1⟩] (.tuple #[]) [some ⟨[.slice (some ⟨2, 0, none⟩) n' n', .int .i64 k', .int .i64 e], true, 1⟩, none, some ⟨List.map (Value.int .u8) Z', true, 1⟩] := by
  have hbl : bs'.length = bs.length + w := by rw [← hb, List.length_append, bitsOf_len]
  refine acalls_of_aw Try.func79 rfl rfl ?_
  repeat' first
    | refine st ?_
    | refine stm ?_
    | refine run_want rfl rfl ?_
    | refine run_unwant rfl rfl ?_
    | refine run_undef rfl rfl ?_
    | refine run_guard1t rfl rfl (by omega) ?_
    | refine run_guard1f rfl rfl (by omega) ?_
    | refine run_guard0t rfl rfl (by omega) ?_
    | refine run_guard0f rfl rfl (by omega) ?_
    | refine run_guard1 rfl rfl (fun h1 => ?_) (fun h1 => ?_)
    | refine run_guard0 rfl rfl (fun h1 => ?_) (fun h1 => ?_)
    | refine run_guard rfl rfl (fun h1 => ?_) (fun h1 => ?_)
    | refine run_nil ?_
    | refine sd ?_
    | refine sdl ?_
    | refine sdm ?_
    | refine sdb ?_
    | refine rund_want rfl rfl ?_
    | refine rund_unwant rfl rfl ?_
    | refine rund_undef rfl rfl ?_
    | refine rund_guard1 rfl rfl (fun h1 => ?_) (fun h1 => ?_)
    | refine rund_guard0 rfl rfl (fun h1 => ?_) (fun h1 => ?_)
    | refine rund_guard rfl rfl (fun h1 => ?_) (fun h1 => ?_)
    | refine rund_nil ?_
    | refine aw_seq ?_
    | refine aw_region (by kernel_rfl) (Nat.le_of_ble_eq_true rfl) ?_
    | refine aw_region_d (id := 5) [0, 1, 3, 7, 0, 16, 48, 112, 240, 511, 1023, 0, 0, 6144, 14336, 30720, 0, 65536, 196608, 458752, 983040, 2031616, 4192256, 8388607, 16777215, 33554431] 25 (by kernel_rfl) (by kernel_rfl) (by kernel_rfl) (Nat.le_of_ble_eq_true rfl) ?_
    | refine aw_block ?_
    | refine aw_cond_t rfl ?_
    | refine aw_cond_f rfl ?_
    | refine aw_cond_tp rfl (by omega) ?_
    | refine aw_cond_fp rfl (by omega) ?_
    | refine aw_cond1 rfl (fun h1 => ?_) (fun h1 => ?_)
    | refine aw_cond rfl (fun h1 => ?_) (fun h1 => ?_)
    | refine aw_skip ?_
    | refine aw_exit ?_
    | refine aw_ret ?_
    | refine pp_ret ?_
    | refine pp_normal ?_
  refine aw_loopg
    (S := fun y : Pg => [(0, .pointer (some ⟨0, 0, none⟩)), (2, .int .u64 x), (6, .int .i64 y.i)])
    (B := fun y : Pg => [some ⟨[.slice (some ⟨2, 0, none⟩) y.n y.n, .int .i64 y.k, .int .i64 e], true, 1⟩, none, some ⟨List.map (Value.int .u8) y.Z, true, 1⟩])
    (R := fun y : Pg => -1 ≤ y.i ∧ y.i < w ∧ pack y.bs = y.Z ∧ y.n = y.Z.length ∧ y.k = y.bs.length ∧ y.bs ++ bitsOf (y.i + 1).toNat x = bs')
    (μ := fun y : Pg => (y.i + 1).toNat) ⟨(w : Int) - 1, bs, Z, n, k⟩ (fitsD [0, 1, 1]) ⟨by dsimp only; omega, by dsimp only; omega, hZ, hn, hk, by dsimp only; rw [show ((w : Int) - 1 + 1).toNat = w by omega]; exact hb⟩ ?_
  clear hZ hn hk hb
  rintro ⟨i, bs, Z, n, k⟩ ⟨g1, g2, hZ, hn, hk, hb⟩
  dsimp only at *
  have hZl : Z.length = (bs.length + 7) / 8 := by rw [← hZ, pack_len]
  have hl2 : bs.length + (i + 1).toNat = bs'.length := by rw [← hb, List.length_append, bitsOf_len]
  by_cases hi : 0 ≤ i
  · have hb1 : bs ++ [x / 2 ^ i.toNat % 2] ++ bitsOf i.toNat x = bs' := by
      rw [← hb, show (i + 1).toNat = i.toNat + 1 by omega, bitsOf, List.append_assoc]
      rfl
    have ha := bv_and1 .u64 (.inl rfl) (x / 2 ^ (min i.toNat IntKind.u64.bits))
    rw [show min i.toNat IntKind.u64.bits = i.toNat from Nat.min_eq_left (by show i.toNat ≤ 64; omega)] at ha
    have e1 : min (7 - k % 8).toNat IntKind.u8.bits = 7 - bs.length % 8 := by show min (7 - k % 8).toNat 8 = _; omega
    have e2 : (k / 8).toNat = bs.length / 8 := by omega
    have e3 : min i.toNat IntKind.u64.bits = i.toNat := Nat.min_eq_left (by show i.toNat ≤ 64; omega)
    have e4 : IntKind.u8.wrap (x / 2 ^ i.toNat % 2) = x / 2 ^ i.toNat % 2 := wrap_id (by simp [IntKind.min, IntKind.signed]; omega) (by simp [IntKind.max, IntKind.signed, IntKind.bits]; omega)
    by_cases h8 : bs.length % 8 = 0
    · have h8' : k % 8 = 0 := by omega
      repeat' first
        | refine run_step (ok_append (cs := List.map (Value.int .u8) (Z ++ [0])) (olds := List.map (Value.int .u8) Z) rfl rfl rfl rfl rfl rfl (Src.slc rfl Ty.eq rfl (Nat.le_of_ble_eq_true rfl) rfl rfl rfl) (by simp; omega) (take_full (by simp; omega)) (by rw [List.map_append]; rfl) (by omega) (by (repeat constructor))) (Nat.le_of_ble_eq_true rfl) ?_
        | refine st ?_
        | refine stm ?_
        | refine run_want rfl rfl ?_
        | refine run_unwant rfl rfl ?_
        | refine run_undef rfl rfl ?_
        | refine run_guard1t rfl rfl (by omega) ?_
        | refine run_guard1f rfl rfl (by omega) ?_
        | refine run_guard0t rfl rfl (by omega) ?_
        | refine run_guard0f rfl rfl (by omega) ?_
        | refine run_guard1 rfl rfl (fun h1 => ?_) (fun h1 => ?_)
        | refine run_guard0 rfl rfl (fun h1 => ?_) (fun h1 => ?_)
        | refine run_guard rfl rfl (fun h1 => ?_) (fun h1 => ?_)
        | refine run_nil ?_
        | refine sd ?_
        | refine sdl ?_
        | refine sdm ?_
        | refine sdb ?_
        | refine rund_want rfl rfl ?_
        | refine rund_unwant rfl rfl ?_
        | refine rund_undef rfl rfl ?_
        | refine rund_guard1 rfl rfl (fun h1 => ?_) (fun h1 => ?_)
        | refine rund_guard0 rfl rfl (fun h1 => ?_) (fun h1 => ?_)
        | refine rund_guard rfl rfl (fun h1 => ?_) (fun h1 => ?_)
        | refine rund_nil ?_
        | refine aw_seq ?_
        | refine aw_region (by kernel_rfl) (Nat.le_of_ble_eq_true rfl) ?_
        | refine aw_region_d (id := 5) [0, 1, 3, 7, 0, 16, 48, 112, 240, 511, 1023, 0, 0, 6144, 14336, 30720, 0, 65536, 196608, 458752, 983040, 2031616, 4192256, 8388607, 16777215, 33554431] 25 (by kernel_rfl) (by kernel_rfl) (by kernel_rfl) (Nat.le_of_ble_eq_true rfl) ?_
        | refine aw_block ?_
        | refine aw_cond_t rfl ?_
        | refine aw_cond_f rfl ?_
        | refine aw_cond_tp rfl (by omega) ?_
        | refine aw_cond_fp rfl (by omega) ?_
        | refine aw_cond1 rfl (fun h1 => ?_) (fun h1 => ?_)
        | refine aw_cond rfl (fun h1 => ?_) (fun h1 => ?_)
        | refine aw_skip ?_
        | refine aw_exit ?_
        | refine aw_ret ?_
        | refine pp_ret ?_
        | refine pp_normal ?_
      refine Exists.intro ⟨i - 1, bs ++ [x / 2 ^ i.toNat % 2], pkS Z bs.length (x / 2 ^ i.toNat % 2), _, _⟩ ⟨fitsD [0, 1, 4] (h4 := .blk rfl (WkL.refl _) rfl (.hole (.blk rfl (.ofEq (by
        refine Eq.trans ?_ (renL_map (fun _ => rfl) _).symm
        rw [pkS, if_pos h8]
        simp only [e1, e2, e3, ha, e4])) rfl .nil))), ⟨by dsimp only; omega, by dsimp only; omega, by dsimp only; rw [pack_snoc, hZ], ?_, ?_, ?_⟩, by dsimp only; omega⟩
      · dsimp only
        rw [pkS_len, if_pos h8]
        omega
      · dsimp only
        rw [List.length_append, List.length_singleton]
        omega
      · dsimp only
        rw [show (i - 1 + 1).toNat = i.toNat by omega]
        exact hb1
    · have h8' : ¬ k % 8 = 0 := by omega
      repeat' first
        | refine st ?_
        | refine stm ?_
        | refine run_want rfl rfl ?_
        | refine run_unwant rfl rfl ?_
        | refine run_undef rfl rfl ?_
        | refine run_guard1t rfl rfl (by omega) ?_
        | refine run_guard1f rfl rfl (by omega) ?_
        | refine run_guard0t rfl rfl (by omega) ?_
        | refine run_guard0f rfl rfl (by omega) ?_
        | refine run_guard1 rfl rfl (fun h1 => ?_) (fun h1 => ?_)
        | refine run_guard0 rfl rfl (fun h1 => ?_) (fun h1 => ?_)
        | refine run_guard rfl rfl (fun h1 => ?_) (fun h1 => ?_)
        | refine run_nil ?_
        | refine sd ?_
        | refine sdl ?_
        | refine sdm ?_
        | refine sdb ?_
        | refine rund_want rfl rfl ?_
        | refine rund_unwant rfl rfl ?_
        | refine rund_undef rfl rfl ?_
        | refine rund_guard1 rfl rfl (fun h1 => ?_) (fun h1 => ?_)
        | refine rund_guard0 rfl rfl (fun h1 => ?_) (fun h1 => ?_)
        | refine rund_guard rfl rfl (fun h1 => ?_) (fun h1 => ?_)
        | refine rund_nil ?_
        | refine aw_seq ?_
        | refine aw_region (by kernel_rfl) (Nat.le_of_ble_eq_true rfl) ?_
        | refine aw_region_d (id := 5) [0, 1, 3, 7, 0, 16, 48, 112, 240, 511, 1023, 0, 0, 6144, 14336, 30720, 0, 65536, 196608, 458752, 983040, 2031616, 4192256, 8388607, 16777215, 33554431] 25 (by kernel_rfl) (by kernel_rfl) (by kernel_rfl) (Nat.le_of_ble_eq_true rfl) ?_
        | refine aw_block ?_
        | refine aw_cond_t rfl ?_
        | refine aw_cond_f rfl ?_
        | refine aw_cond_tp rfl (by omega) ?_
        | refine aw_cond_fp rfl (by omega) ?_
        | refine aw_cond1 rfl (fun h1 => ?_) (fun h1 => ?_)
        | refine aw_cond rfl (fun h1 => ?_) (fun h1 => ?_)
        | refine aw_skip ?_
        | refine aw_exit ?_
        | refine aw_ret ?_
        | refine pp_ret ?_
        | refine pp_normal ?_
      refine Exists.intro ⟨i - 1, bs ++ [x / 2 ^ i.toNat % 2], pkS Z bs.length (x / 2 ^ i.toNat % 2), _, _⟩ ⟨fitsD [0, 1, 2] (h4 := .blk rfl (WkL.refl _) rfl (.hole (.blk rfl (.ofEq (by
        refine Eq.trans ?_ (renL_map (fun _ => rfl) _).symm
        rw [pkS, if_neg h8]
        simp only [e1, e2, e3, ha, e4])) rfl .nil))), ⟨by dsimp only; omega, by dsimp only; omega, by dsimp only; rw [pack_snoc, hZ], ?_, ?_, ?_⟩, by dsimp only; omega⟩
      · dsimp only
        rw [pkS_len, if_neg h8]
        omega
      · dsimp only
        rw [List.length_append, List.length_singleton]
        omega
      · dsimp only
        rw [show (i - 1 + 1).toNat = i.toNat by omega]
        exact hb1
  · obtain rfl : i = -1 := by omega
    repeat' first
      | refine st ?_
      | refine stm ?_
      | refine run_want rfl rfl ?_
      | refine run_unwant rfl rfl ?_
      | refine run_undef rfl rfl ?_
      | refine run_guard1t rfl rfl (by omega) ?_
      | refine run_guard1f rfl rfl (by omega) ?_
      | refine run_guard0t rfl rfl (by omega) ?_
      | refine run_guard0f rfl rfl (by omega) ?_
      | refine run_guard1 rfl rfl (fun h1 => ?_) (fun h1 => ?_)
      | refine run_guard0 rfl rfl (fun h1 => ?_) (fun h1 => ?_)
      | refine run_guard rfl rfl (fun h1 => ?_) (fun h1 => ?_)
      | refine run_nil ?_
      | refine sd ?_
      | refine sdl ?_
      | refine sdm ?_
      | refine sdb ?_
      | refine rund_want rfl rfl ?_
      | refine rund_unwant rfl rfl ?_
      | refine rund_undef rfl rfl ?_
      | refine rund_guard1 rfl rfl (fun h1 => ?_) (fun h1 => ?_)
      | refine rund_guard0 rfl rfl (fun h1 => ?_) (fun h1 => ?_)
      | refine rund_guard rfl rfl (fun h1 => ?_) (fun h1 => ?_)
      | refine rund_nil ?_
      | refine aw_seq ?_
      | refine aw_region (by kernel_rfl) (Nat.le_of_ble_eq_true rfl) ?_
      | refine aw_region_d (id := 5) [0, 1, 3, 7, 0, 16, 48, 112, 240, 511, 1023, 0, 0, 6144, 14336, 30720, 0, 65536, 196608, 458752, 983040, 2031616, 4192256, 8388607, 16777215, 33554431] 25 (by kernel_rfl) (by kernel_rfl) (by kernel_rfl) (Nat.le_of_ble_eq_true rfl) ?_
      | refine aw_block ?_
      | refine aw_cond_t rfl ?_
      | refine aw_cond_f rfl ?_
      | refine aw_cond_tp rfl (by omega) ?_
      | refine aw_cond_fp rfl (by omega) ?_
      | refine aw_cond1 rfl (fun h1 => ?_) (fun h1 => ?_)
      | refine aw_cond rfl (fun h1 => ?_) (fun h1 => ?_)
      | refine aw_skip ?_
      | refine aw_exit ?_
      | refine aw_ret ?_
      | refine pp_ret ?_
      | refine pp_normal ?_
    have hbb : bs = bs' := by rw [← hb]; simp [bitsOf]
    subst hbb
    rw [hZ] at hZ'
    subst hZ' hn hn' hk hk'
    exact pm_normal _ (renumD [0, 1, 2]) rfl
end Go.Proofs.Ytjamfmnlhiolkaa
