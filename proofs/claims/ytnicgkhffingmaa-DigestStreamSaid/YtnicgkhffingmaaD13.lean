/- Digest: texts are read. -/
import Derived.Test.YtnicgkhffingmaaD12
import Derived.Test.YtnicgkhffingmaaD2
set_option linter.unusedVariables false
set_option linter.unusedSimpArgs false
namespace Go.Proofs.Ytnicgkhffingmaa
open Go Av
set_option maxRecDepth 20000
def okc (c : UInt8) : Prop := (48 ≤ (c.toNat : Int) ∧ (c.toNat : Int) ≤ 57) ∨ (97 ≤ (c.toNat : Int) ∧ (c.toNat : Int) ≤ 102)
instance (c : UInt8) : Decidable (okc c) := by unfold okc; infer_instance
def hiD (c : UInt8) : Int := IntKind.u8.wrap (IntKind.i64.wrap (dgI c.toNat * 2 ^ (min (Int.toNat 4) IntKind.i64.bits)))
def loD (x : Int) (c : UInt8) : Int := bitv .or .u8 x (IntKind.u8.wrap (dgI c.toNat))
/-- The bytes behind i digits. -/
def prI (t : ByteArray) : Nat → List Int
  | 0 => []
  | i + 1 => if i % 2 = 0 then prI t i ++ [hiD (byteAt t i)] else (prI t i).set (i / 2) (loD ((prI t i).getD (i / 2) 0) (byteAt t i))
theorem prI_len (t i) : (prI t i).length = (i + 1) / 2 := by induction i with
  | zero => rfl
  | succ i ih =>
    rw [prI]
    split
    · simp [ih]; omega
    · simp [ih]; omega
set_option maxHeartbeats 1000000 in
theorem ac_ParseLen (t : ByteArray) (h : t.size ≠ 64) : ACalls Try.prog 10 [.string t] [] (.tuple #[.string ⟨#[]⟩, .int .i64 3]) [] := by
  refine acalls_pure Try.func10 rfl rfl rfl ?_
  repeat' first
    | refine st ?_
    | refine stm ?_
    | refine run_want rfl rfl ?_
    | refine run_unwant rfl rfl ?_
    | refine run_undef rfl rfl ?_
    | refine run_guard1t rfl rfl (by omega) ?_
    | refine run_guard1f rfl rfl (by omega) ?_
    | refine run_guard0t rfl rfl (by omega) ?_
    | refine run_guard0f rfl rfl (by omega) ?_
    | refine run_guard1 rfl rfl (fun h1 => ?_) (fun h1 => ?_)
    | refine run_guard0 rfl rfl (fun h1 => ?_) (fun h1 => ?_)
    | refine run_guard rfl rfl (fun h1 => ?_) (fun h1 => ?_)
    | refine run_nil ?_
    | refine sd ?_
    | refine sdl ?_
    | refine sdm (n := 1) ?_
    | refine sdm ?_
    | refine sdb ?_
    | refine rund_want rfl rfl ?_
    | refine rund_unwant rfl rfl ?_
    | refine rund_undef rfl rfl ?_
    | refine rund_guard1 rfl rfl (fun h1 => ?_) (fun h1 => ?_)
    | refine rund_guard0 rfl rfl (fun h1 => ?_) (fun h1 => ?_)
    | refine rund_guard rfl rfl (fun h1 => ?_) (fun h1 => ?_)
    | refine rund_nil ?_
    | refine aw_seq ?_
    | refine aw_region (by kernel_rfl) (Nat.le_of_ble_eq_true rfl) ?_
    | refine aw_region_d (id := 12) [0, 0, 2, 7, 15, 0, 32, 96, 255, 511, 1023] 10 (by kernel_rfl) (by kernel_rfl) (by kernel_rfl) (Nat.le_of_ble_eq_true rfl) ?_
    | refine aw_block ?_
    | refine aw_cond_t rfl ?_
    | refine aw_cond_f rfl ?_
    | refine aw_cond_tp rfl (by omega) ?_
    | refine aw_cond_fp rfl (by omega) ?_
    | refine aw_cond1 rfl (fun h1 => ?_) (fun h1 => ?_)
    | refine aw_cond rfl (fun h1 => ?_) (fun h1 => ?_)
    | refine aw_skip ?_
    | refine aw_exit ?_
    | refine aw_ret ?_
    | refine pp_ret ?_
    | refine pp_normal ?_
  all_goals first | rfl | (exfalso; omega)
structure Pg where
  i : Nat
  n : Nat
  Z : List Int
set_option maxHeartbeats 2000000 in
theorem ac_ParseOK (t : ByteArray) (h : t.size = 64) (hok : ∀ j, j < 64 → okc (byteAt t j)) (T : List UInt8) (hT : (prI t 64).map (Value.int .u8) = T.map u8v) : ACalls Try.prog 10 [.string t] [] (.tuple #[.string ⟨T.toArray⟩, .int .i64 0]) [] := by
  refine acalls_pure Try.func10 rfl rfl rfl ?_
  repeat' first
    | refine st ?_
    | refine stm ?_
    | refine run_want rfl rfl ?_
    | refine run_unwant rfl rfl ?_
    | refine run_undef rfl rfl ?_
    | refine run_guard1t rfl rfl (by omega) ?_
    | refine run_guard1f rfl rfl (by omega) ?_
    | refine run_guard0t rfl rfl (by omega) ?_
    | refine run_guard0f rfl rfl (by omega) ?_
    | refine run_guard1 rfl rfl (fun h1 => ?_) (fun h1 => ?_)
    | refine run_guard0 rfl rfl (fun h1 => ?_) (fun h1 => ?_)
    | refine run_guard rfl rfl (fun h1 => ?_) (fun h1 => ?_)
    | refine run_nil ?_
    | refine sd ?_
    | refine sdl ?_
    | refine sdm (n := 1) ?_
    | refine sdm ?_
    | refine sdb ?_
    | refine rund_want rfl rfl ?_
    | refine rund_unwant rfl rfl ?_
    | refine rund_undef rfl rfl ?_
    | refine rund_guard1 rfl rfl (fun h1 => ?_) (fun h1 => ?_)
    | refine rund_guard0 rfl rfl (fun h1 => ?_) (fun h1 => ?_)
    | refine rund_guard rfl rfl (fun h1 => ?_) (fun h1 => ?_)
    | refine rund_nil ?_
    | refine aw_seq ?_
    | refine aw_region (by kernel_rfl) (Nat.le_of_ble_eq_true rfl) ?_
    | refine aw_region_d (id := 12) [0, 0, 2, 7, 15, 0, 32, 96, 255, 511, 1023] 10 (by kernel_rfl) (by kernel_rfl) (by kernel_rfl) (Nat.le_of_ble_eq_true rfl) ?_
    | refine aw_block ?_
    | refine aw_cond_t rfl ?_
    | refine aw_cond_f rfl ?_
    | refine aw_cond_tp rfl (by omega) ?_
    | refine aw_cond_fp rfl (by omega) ?_
    | refine aw_cond1 rfl (fun h1 => ?_) (fun h1 => ?_)
    | refine aw_cond rfl (fun h1 => ?_) (fun h1 => ?_)
    | refine aw_skip ?_
    | refine aw_exit ?_
    | refine aw_ret ?_
    | refine pp_ret ?_
    | refine pp_normal ?_
  refine aw_loopg
    (S := fun x : Pg => [(0, .string t), (4, .slice (some ⟨0, 0, none⟩) x.n x.n), (12, .int .i64 64), (13, .int .i64 x.i)])
    (B := fun x : Pg => [some ⟨x.Z.map (Value.int .u8), true, 1⟩])
    (R := fun x : Pg => x.i ≤ 64 ∧ x.n = (x.i + 1) / 2 ∧ x.Z.take x.n = prI t x.i ∧ True)
    (μ := fun x : Pg => 64 - x.i) ⟨0, 0, List.replicate 32 0⟩ (fitsD [0] (h4 := .blk rfl (.ofEq (List.map_replicate ..).symm) rfl .nil) (hs := by
      refine .cons rfl (.refl _) (.cons rfl (.refl _) (.cons (u := .int .i64 (t.size : Int)) rfl ?_ (.cons rfl (.refl _) .nil)))
      rw [h]; exact .refl _)) ⟨by dsimp only; omega, rfl, rfl, trivial⟩ ?_
  rintro ⟨i, n, Z⟩ ⟨g1, g2, g3, g4⟩
  dsimp only at *
  have hl := prI_len t i
  have hZl : n ≤ Z.length := by rw [← g3, List.length_take] at hl; omega
  have hq : List.take (n * 1) (List.drop 0 (Z.map (Value.int .u8))) = (prI t i).map (Value.int .u8) := by rw [List.drop_zero, Nat.mul_one, ← List.map_take, g3]
  have hdg := aw_digit (byteAt t (i : Int).toNat).toNat
  by_cases hi : i < 64
  · have hc : okc (byteAt t (i : Int).toNat) := hok _ (by omega)
    unfold okc at hc
    rcases Nat.mod_two_eq_zero_or_one i with hm | hm
    · have hm' : (i : Int) % 2 = 0 := by omega
      repeat' first
        | refine st ?_
        | refine st_call (hdg) ?_
        | refine stm ?_
        | refine run_want rfl rfl ?_
        | refine run_unwant rfl rfl ?_
        | refine run_undef rfl rfl ?_
        | refine run_guard1t rfl rfl (by omega) ?_
        | refine run_guard1f rfl rfl (by omega) ?_
        | refine run_guard0t rfl rfl (by omega) ?_
        | refine run_guard0f rfl rfl (by omega) ?_
        | refine run_guard1 rfl rfl (fun h1 => ?_) (fun h1 => ?_)
        | refine run_guard0 rfl rfl (fun h1 => ?_) (fun h1 => ?_)
        | refine run_guard rfl rfl (fun h1 => ?_) (fun h1 => ?_)
        | refine run_nil ?_
        | refine sd ?_
        | refine sdl ?_
        | refine sd_call (hdg) ?_
        | refine sdm (n := 1) ?_
        | refine sdm ?_
        | refine sdb ?_
        | refine rund_want rfl rfl ?_
        | refine rund_unwant rfl rfl ?_
        | refine rund_undef rfl rfl ?_
        | refine rund_guard1 rfl rfl (fun h1 => ?_) (fun h1 => ?_)
        | refine rund_guard0 rfl rfl (fun h1 => ?_) (fun h1 => ?_)
        | refine rund_guard rfl rfl (fun h1 => ?_) (fun h1 => ?_)
        | refine rund_nil ?_
        | refine aw_seq ?_
        | refine aw_region (by kernel_rfl) (Nat.le_of_ble_eq_true rfl) ?_
        | refine aw_region_d (id := 12) [0, 0, 2, 7, 15, 0, 32, 96, 255, 511, 1023] 10 (by kernel_rfl) (by kernel_rfl) (by kernel_rfl) (Nat.le_of_ble_eq_true rfl) ?_
        | refine aw_block ?_
        | refine aw_cond_t rfl ?_
        | refine aw_cond_f rfl ?_
        | refine aw_cond_tp rfl (by omega) ?_
        | refine aw_cond_fp rfl (by omega) ?_
        | refine aw_cond1 rfl (fun h1 => ?_) (fun h1 => ?_)
        | refine aw_cond rfl (fun h1 => ?_) (fun h1 => ?_)
        | refine aw_skip ?_
        | refine aw_exit ?_
        | refine aw_ret ?_
        | refine pp_ret ?_
        | refine pp_normal ?_
      all_goals refine Exists.intro ⟨i + 1, n + 1, prI t (i + 1)⟩ ⟨fitsD [2] (h4 := .blk rfl (.ofEq (by refine Eq.trans ?_ (renL_map (fun _ => rfl) (prI t (i + 1))).symm; rw [hq, prI, if_pos hm, List.map_append]; rfl)) rfl .nil), ⟨by dsimp only; omega, by dsimp only; omega, by dsimp only; rw [List.take_of_length_le (by rw [prI_len]; omega)], trivial⟩, by dsimp only; omega⟩
    · have hm' : ¬ (i : Int) % 2 = 0 := by omega
      have hi2 : ((i : Int) / 2).toNat = i / 2 := by omega
      have hgd : (prI t i).getD (i / 2) 0 = Z.getD (i / 2) 0 := by rw [← g3, List.getD_eq_getElem?_getD, List.getD_eq_getElem?_getD, List.getElem?_take, if_pos (by omega)]
      repeat' first
        | refine st ?_
        | refine st_call (hdg) ?_
        | refine stm ?_
        | refine run_want rfl rfl ?_
        | refine run_unwant rfl rfl ?_
        | refine run_undef rfl rfl ?_
        | refine run_guard1t rfl rfl (by omega) ?_
        | refine run_guard1f rfl rfl (by omega) ?_
        | refine run_guard0t rfl rfl (by omega) ?_
        | refine run_guard0f rfl rfl (by omega) ?_
        | refine run_guard1 rfl rfl (fun h1 => ?_) (fun h1 => ?_)
        | refine run_guard0 rfl rfl (fun h1 => ?_) (fun h1 => ?_)
        | refine run_guard rfl rfl (fun h1 => ?_) (fun h1 => ?_)
        | refine run_nil ?_
        | refine sd ?_
        | refine sdl ?_
        | refine sd_call (hdg) ?_
        | refine sdm (n := 1) ?_
        | refine sdm ?_
        | refine sdb ?_
        | refine rund_want rfl rfl ?_
        | refine rund_unwant rfl rfl ?_
        | refine rund_undef rfl rfl ?_
        | refine rund_guard1 rfl rfl (fun h1 => ?_) (fun h1 => ?_)
        | refine rund_guard0 rfl rfl (fun h1 => ?_) (fun h1 => ?_)
        | refine rund_guard rfl rfl (fun h1 => ?_) (fun h1 => ?_)
        | refine rund_nil ?_
        | refine aw_seq ?_
        | refine aw_region (by kernel_rfl) (Nat.le_of_ble_eq_true rfl) ?_
        | refine aw_region_d (id := 12) [0, 0, 2, 7, 15, 0, 32, 96, 255, 511, 1023] 10 (by kernel_rfl) (by kernel_rfl) (by kernel_rfl) (Nat.le_of_ble_eq_true rfl) ?_
        | refine aw_block ?_
        | refine aw_cond_t rfl ?_
        | refine aw_cond_f rfl ?_
        | refine aw_cond_tp rfl (by omega) ?_
        | refine aw_cond_fp rfl (by omega) ?_
        | refine aw_cond1 rfl (fun h1 => ?_) (fun h1 => ?_)
        | refine aw_cond rfl (fun h1 => ?_) (fun h1 => ?_)
        | refine aw_skip ?_
        | refine aw_exit ?_
        | refine aw_ret ?_
        | refine pp_ret ?_
        | refine pp_normal ?_
      all_goals refine Exists.intro ⟨i + 1, n, Z.set (i / 2) (loD (Z.getD (i / 2) 0) (byteAt t i))⟩ ⟨fitsD [0] (h4 := .blk rfl (.ofEq (by refine Eq.trans ?_ (renL_map (fun _ => rfl) _).symm; rw [hi2]; rfl)) rfl .nil), ⟨by dsimp only; omega, by dsimp only; omega, ?_, trivial⟩, by dsimp only; omega⟩
      all_goals
        dsimp only
        rw [prI, if_neg (by omega), List.take_set, g3, hgd]
  · obtain rfl : i = 64 := by omega
    obtain rfl : n = 32 := by omega
    repeat' first
      | refine st (h := ok_bytes_str (l := T) rfl rfl (by simp; omega) (hq.trans hT)) ?_
      | refine st ?_
      | refine stm ?_
      | refine run_want rfl rfl ?_
      | refine run_unwant rfl rfl ?_
      | refine run_undef rfl rfl ?_
      | refine run_guard1t rfl rfl (by omega) ?_
      | refine run_guard1f rfl rfl (by omega) ?_
      | refine run_guard0t rfl rfl (by omega) ?_
      | refine run_guard0f rfl rfl (by omega) ?_
      | refine run_guard1 rfl rfl (fun h1 => ?_) (fun h1 => ?_)
      | refine run_guard0 rfl rfl (fun h1 => ?_) (fun h1 => ?_)
      | refine run_guard rfl rfl (fun h1 => ?_) (fun h1 => ?_)
      | refine run_nil ?_
      | refine sd ?_
      | refine sdl ?_
      | refine sdm (n := 1) ?_
      | refine sdm ?_
      | refine sdb ?_
      | refine rund_want rfl rfl ?_
      | refine rund_unwant rfl rfl ?_
      | refine rund_undef rfl rfl ?_
      | refine rund_guard1 rfl rfl (fun h1 => ?_) (fun h1 => ?_)
      | refine rund_guard0 rfl rfl (fun h1 => ?_) (fun h1 => ?_)
      | refine rund_guard rfl rfl (fun h1 => ?_) (fun h1 => ?_)
      | refine rund_nil ?_
      | refine aw_seq ?_
      | refine aw_region (by kernel_rfl) (Nat.le_of_ble_eq_true rfl) ?_
      | refine aw_region_d (id := 12) [0, 0, 2, 7, 15, 0, 32, 96, 255, 511, 1023] 10 (by kernel_rfl) (by kernel_rfl) (by kernel_rfl) (Nat.le_of_ble_eq_true rfl) ?_
      | refine aw_block ?_
      | refine aw_cond_t rfl ?_
      | refine aw_cond_f rfl ?_
      | refine aw_cond_tp rfl (by omega) ?_
      | refine aw_cond_fp rfl (by omega) ?_
      | refine aw_cond1 rfl (fun h1 => ?_) (fun h1 => ?_)
      | refine aw_cond rfl (fun h1 => ?_) (fun h1 => ?_)
      | refine aw_skip ?_
      | refine aw_exit ?_
      | refine aw_ret ?_
      | refine pp_ret ?_
      | refine pp_normal ?_
    rfl
set_option maxHeartbeats 2000000 in
theorem ac_ParseBad (t : ByteArray) (h : t.size = 64) (b : Nat) (hb : b < 64) (hok : ∀ j, j < b → okc (byteAt t j)) (hbad : ¬ okc (byteAt t b)) : ACalls Try.prog 10 [.string t] [] (.tuple #[.string ⟨#[]⟩, .int .i64 3]) [] := by
  refine acalls_pure Try.func10 rfl rfl rfl ?_
  repeat' first
    | refine st ?_
    | refine stm ?_
    | refine run_want rfl rfl ?_
    | refine run_unwant rfl rfl ?_
    | refine run_undef rfl rfl ?_
    | refine run_guard1t rfl rfl (by omega) ?_
    | refine run_guard1f rfl rfl (by omega) ?_
    | refine run_guard0t rfl rfl (by omega) ?_
    | refine run_guard0f rfl rfl (by omega) ?_
    | refine run_guard1 rfl rfl (fun h1 => ?_) (fun h1 => ?_)
    | refine run_guard0 rfl rfl (fun h1 => ?_) (fun h1 => ?_)
    | refine run_guard rfl rfl (fun h1 => ?_) (fun h1 => ?_)
    | refine run_nil ?_
    | refine sd ?_
    | refine sdl ?_
    | refine sdm (n := 1) ?_
    | refine sdm ?_
    | refine sdb ?_
    | refine rund_want rfl rfl ?_
    | refine rund_unwant rfl rfl ?_
    | refine rund_undef rfl rfl ?_
    | refine rund_guard1 rfl rfl (fun h1 => ?_) (fun h1 => ?_)
    | refine rund_guard0 rfl rfl (fun h1 => ?_) (fun h1 => ?_)
    | refine rund_guard rfl rfl (fun h1 => ?_) (fun h1 => ?_)
    | refine rund_nil ?_
    | refine aw_seq ?_
    | refine aw_region (by kernel_rfl) (Nat.le_of_ble_eq_true rfl) ?_
    | refine aw_region_d (id := 12) [0, 0, 2, 7, 15, 0, 32, 96, 255, 511, 1023] 10 (by kernel_rfl) (by kernel_rfl) (by kernel_rfl) (Nat.le_of_ble_eq_true rfl) ?_
    | refine aw_block ?_
    | refine aw_cond_t rfl ?_
    | refine aw_cond_f rfl ?_
    | refine aw_cond_tp rfl (by omega) ?_
    | refine aw_cond_fp rfl (by omega) ?_
    | refine aw_cond1 rfl (fun h1 => ?_) (fun h1 => ?_)
    | refine aw_cond rfl (fun h1 => ?_) (fun h1 => ?_)
    | refine aw_skip ?_
    | refine aw_exit ?_
    | refine aw_ret ?_
    | refine pp_ret ?_
    | refine pp_normal ?_
  refine aw_loopg
    (S := fun x : Pg => [(0, .string t), (4, .slice (some ⟨0, 0, none⟩) x.n x.n), (12, .int .i64 64), (13, .int .i64 x.i)])
    (B := fun x : Pg => [some ⟨x.Z.map (Value.int .u8), true, 1⟩])
    (R := fun x : Pg => x.i ≤ 64 ∧ x.n = (x.i + 1) / 2 ∧ x.Z.take x.n = prI t x.i ∧ x.i ≤ b)
    (μ := fun x : Pg => 64 - x.i) ⟨0, 0, List.replicate 32 0⟩ (fitsD [0] (h4 := .blk rfl (.ofEq (List.map_replicate ..).symm) rfl .nil) (hs := by
      refine .cons rfl (.refl _) (.cons rfl (.refl _) (.cons (u := .int .i64 (t.size : Int)) rfl ?_ (.cons rfl (.refl _) .nil)))
      rw [h]; exact .refl _)) ⟨by dsimp only; omega, rfl, rfl, by dsimp only; omega⟩ ?_
  rintro ⟨i, n, Z⟩ ⟨g1, g2, g3, g4⟩
  dsimp only at *
  have hl := prI_len t i
  have hZl : n ≤ Z.length := by rw [← g3, List.length_take] at hl; omega
  have hq : List.take (n * 1) (List.drop 0 (Z.map (Value.int .u8))) = (prI t i).map (Value.int .u8) := by rw [List.drop_zero, Nat.mul_one, ← List.map_take, g3]
  have hdg := aw_digit (byteAt t (i : Int).toNat).toNat
  by_cases hi : i < b
  · have hc : okc (byteAt t (i : Int).toNat) := hok _ (by omega)
    unfold okc at hc
    rcases Nat.mod_two_eq_zero_or_one i with hm | hm
    · have hm' : (i : Int) % 2 = 0 := by omega
      repeat' first
        | refine st ?_
        | refine st_call (hdg) ?_
        | refine stm ?_
        | refine run_want rfl rfl ?_
        | refine run_unwant rfl rfl ?_
        | refine run_undef rfl rfl ?_
        | refine run_guard1t rfl rfl (by omega) ?_
        | refine run_guard1f rfl rfl (by omega) ?_
        | refine run_guard0t rfl rfl (by omega) ?_
        | refine run_guard0f rfl rfl (by omega) ?_
        | refine run_guard1 rfl rfl (fun h1 => ?_) (fun h1 => ?_)
        | refine run_guard0 rfl rfl (fun h1 => ?_) (fun h1 => ?_)
        | refine run_guard rfl rfl (fun h1 => ?_) (fun h1 => ?_)
        | refine run_nil ?_
        | refine sd ?_
        | refine sdl ?_
        | refine sd_call (hdg) ?_
        | refine sdm (n := 1) ?_
        | refine sdm ?_
        | refine sdb ?_
        | refine rund_want rfl rfl ?_
        | refine rund_unwant rfl rfl ?_
        | refine rund_undef rfl rfl ?_
        | refine rund_guard1 rfl rfl (fun h1 => ?_) (fun h1 => ?_)
        | refine rund_guard0 rfl rfl (fun h1 => ?_) (fun h1 => ?_)
        | refine rund_guard rfl rfl (fun h1 => ?_) (fun h1 => ?_)
        | refine rund_nil ?_
        | refine aw_seq ?_
        | refine aw_region (by kernel_rfl) (Nat.le_of_ble_eq_true rfl) ?_
        | refine aw_region_d (id := 12) [0, 0, 2, 7, 15, 0, 32, 96, 255, 511, 1023] 10 (by kernel_rfl) (by kernel_rfl) (by kernel_rfl) (Nat.le_of_ble_eq_true rfl) ?_
        | refine aw_block ?_
        | refine aw_cond_t rfl ?_
        | refine aw_cond_f rfl ?_
        | refine aw_cond_tp rfl (by omega) ?_
        | refine aw_cond_fp rfl (by omega) ?_
        | refine aw_cond1 rfl (fun h1 => ?_) (fun h1 => ?_)
        | refine aw_cond rfl (fun h1 => ?_) (fun h1 => ?_)
        | refine aw_skip ?_
        | refine aw_exit ?_
        | refine aw_ret ?_
        | refine pp_ret ?_
        | refine pp_normal ?_
      all_goals refine Exists.intro ⟨i + 1, n + 1, prI t (i + 1)⟩ ⟨fitsD [2] (h4 := .blk rfl (.ofEq (by refine Eq.trans ?_ (renL_map (fun _ => rfl) (prI t (i + 1))).symm; rw [hq, prI, if_pos hm, List.map_append]; rfl)) rfl .nil), ⟨by dsimp only; omega, by dsimp only; omega, by dsimp only; rw [List.take_of_length_le (by rw [prI_len]; omega)], by dsimp only; omega⟩, by dsimp only; omega⟩
    · have hm' : ¬ (i : Int) % 2 = 0 := by omega
      have hi2 : ((i : Int) / 2).toNat = i / 2 := by omega
      have hgd : (prI t i).getD (i / 2) 0 = Z.getD (i / 2) 0 := by rw [← g3, List.getD_eq_getElem?_getD, List.getD_eq_getElem?_getD, List.getElem?_take, if_pos (by omega)]
      repeat' first
        | refine st ?_
        | refine st_call (hdg) ?_
        | refine stm ?_
        | refine run_want rfl rfl ?_
        | refine run_unwant rfl rfl ?_
        | refine run_undef rfl rfl ?_
        | refine run_guard1t rfl rfl (by omega) ?_
        | refine run_guard1f rfl rfl (by omega) ?_
        | refine run_guard0t rfl rfl (by omega) ?_
        | refine run_guard0f rfl rfl (by omega) ?_
        | refine run_guard1 rfl rfl (fun h1 => ?_) (fun h1 => ?_)
        | refine run_guard0 rfl rfl (fun h1 => ?_) (fun h1 => ?_)
        | refine run_guard rfl rfl (fun h1 => ?_) (fun h1 => ?_)
        | refine run_nil ?_
        | refine sd ?_
        | refine sdl ?_
        | refine sd_call (hdg) ?_
        | refine sdm (n := 1) ?_
        | refine sdm ?_
        | refine sdb ?_
        | refine rund_want rfl rfl ?_
        | refine rund_unwant rfl rfl ?_
        | refine rund_undef rfl rfl ?_
        | refine rund_guard1 rfl rfl (fun h1 => ?_) (fun h1 => ?_)
        | refine rund_guard0 rfl rfl (fun h1 => ?_) (fun h1 => ?_)
        | refine rund_guard rfl rfl (fun h1 => ?_) (fun h1 => ?_)
        | refine rund_nil ?_
        | refine aw_seq ?_
        | refine aw_region (by kernel_rfl) (Nat.le_of_ble_eq_true rfl) ?_
        | refine aw_region_d (id := 12) [0, 0, 2, 7, 15, 0, 32, 96, 255, 511, 1023] 10 (by kernel_rfl) (by kernel_rfl) (by kernel_rfl) (Nat.le_of_ble_eq_true rfl) ?_
        | refine aw_block ?_
        | refine aw_cond_t rfl ?_
        | refine aw_cond_f rfl ?_
        | refine aw_cond_tp rfl (by omega) ?_
        | refine aw_cond_fp rfl (by omega) ?_
        | refine aw_cond1 rfl (fun h1 => ?_) (fun h1 => ?_)
        | refine aw_cond rfl (fun h1 => ?_) (fun h1 => ?_)
        | refine aw_skip ?_
        | refine aw_exit ?_
        | refine aw_ret ?_
        | refine pp_ret ?_
        | refine pp_normal ?_
      all_goals refine Exists.intro ⟨i + 1, n, Z.set (i / 2) (loD (Z.getD (i / 2) 0) (byteAt t i))⟩ ⟨fitsD [0] (h4 := .blk rfl (.ofEq (by refine Eq.trans ?_ (renL_map (fun _ => rfl) _).symm; rw [hi2]; rfl)) rfl .nil), ⟨by dsimp only; omega, by dsimp only; omega, ?_, by dsimp only; omega⟩, by dsimp only; omega⟩
      all_goals
        dsimp only
        rw [prI, if_neg (by omega), List.take_set, g3, hgd]
  · obtain rfl : i = b := by omega
    have hc : ¬ okc (byteAt t (i : Int).toNat) := hbad
    unfold okc at hc
    repeat' first
      | refine st ?_
      | refine stm ?_
      | refine run_want rfl rfl ?_
      | refine run_unwant rfl rfl ?_
      | refine run_undef rfl rfl ?_
      | refine run_guard1t rfl rfl (by omega) ?_
      | refine run_guard1f rfl rfl (by omega) ?_
      | refine run_guard0t rfl rfl (by omega) ?_
      | refine run_guard0f rfl rfl (by omega) ?_
      | refine run_guard1 rfl rfl (fun h1 => ?_) (fun h1 => ?_)
      | refine run_guard0 rfl rfl (fun h1 => ?_) (fun h1 => ?_)
      | refine run_guard rfl rfl (fun h1 => ?_) (fun h1 => ?_)
      | refine run_nil ?_
      | refine sd ?_
      | refine sdl ?_
      | refine sdm (n := 1) ?_
      | refine sdm ?_
      | refine sdb ?_
      | refine rund_want rfl rfl ?_
      | refine rund_unwant rfl rfl ?_
      | refine rund_undef rfl rfl ?_
      | refine rund_guard1 rfl rfl (fun h1 => ?_) (fun h1 => ?_)
      | refine rund_guard0 rfl rfl (fun h1 => ?_) (fun h1 => ?_)
      | refine rund_guard rfl rfl (fun h1 => ?_) (fun h1 => ?_)
      | refine rund_nil ?_
      | refine aw_seq ?_
      | refine aw_region (by kernel_rfl) (Nat.le_of_ble_eq_true rfl) ?_
      | refine aw_region_d (id := 12) [0, 0, 2, 7, 15, 0, 32, 96, 255, 511, 1023] 10 (by kernel_rfl) (by kernel_rfl) (by kernel_rfl) (Nat.le_of_ble_eq_true rfl) ?_
      | refine aw_block ?_
      | refine aw_cond_t rfl ?_
      | refine aw_cond_f rfl ?_
      | refine aw_cond_tp rfl (by omega) ?_
      | refine aw_cond_fp rfl (by omega) ?_
      | refine aw_cond1 rfl (fun h1 => ?_) (fun h1 => ?_)
      | refine aw_cond rfl (fun h1 => ?_) (fun h1 => ?_)
      | refine aw_skip ?_
      | refine aw_exit ?_
      | refine aw_ret ?_
      | refine pp_ret ?_
      | refine pp_normal ?_
    all_goals rfl
end Go.Proofs.Ytnicgkhffingmaa
