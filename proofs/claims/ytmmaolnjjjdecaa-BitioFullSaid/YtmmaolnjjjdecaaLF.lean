/- BitioWidths, BitioSigned: the laws. -/
import Derived.Test.YtmmaolnjjjdecaaLA
import Derived.Test.YtmmaolnjjjdecaaE6
import Derived.Test.YtmmaolnjjjdecaaD2
set_option linter.unusedVariables false
set_option linter.unusedSimpArgs false
namespace Go.Proofs.Ytmmaolnjjjdecaa
open Go Av
set_option maxRecDepth 20000
theorem wdth_fit (m : Int) (h : 0 ≤ m ∧ m ≤ 9223372036854775807) : m < 2 ^ (wdth m).toNat ∧ (2 ≤ wdth m → 2 ^ (wdth m - 1).toNat ≤ m) ∧ (wdth m = 1 → m ≤ 1) := by
  have h1 : wdth m = max 1 (bl m.toNat) := by unfold wdth; rw [if_neg (by omega)]
  have hb := bl_bd m.toNat (by omega)
  have hw := wdth_bd m h
  have e1 := bl_lt m (wdth m) h.1 (by omega)
  have hlt := e1.1 (by omega)
  refine ⟨hlt, fun h2 => ?_, fun h2 => ?_⟩
  · have e2 := bl_lt m (wdth m - 1) h.1 (by omega)
    rcases Int.lt_or_le m (2 ^ (wdth m - 1).toNat) with hm | hm
    · have := e2.2 hm
      omega
    · exact hm
  · rw [h2] at hlt
    have : (2 : Int) ^ (1 : Int).toNat = 2 := by decide
    omega
set_option maxHeartbeats 4000000 in
theorem law_widths (m : Int) (hm : -9223372036854775808 ≤ m ∧ m ≤ 9223372036854775807) : ACalls Try.prog 5 [.int .i64 m] [] (.bool true) [] := by
  have HW := ac_width m hm
  by_cases h0 : m < 0
  · have hw : wdth m = 0 := by unfold wdth; rw [if_pos h0]
    rw [hw] at HW
    refine acalls_pure Try.func5 rfl rfl rfl ?_
    repeat' first
      | refine st ?_
      | refine st_call (ac_awake) ?_
      | refine st_call (HW) ?_
      | refine stm ?_
      | refine run_want rfl rfl ?_
      | refine run_unwant rfl rfl ?_
      | refine run_undef rfl rfl ?_
      | refine run_guard1t rfl rfl (by omega) ?_
      | refine run_guard1f rfl rfl (by omega) ?_
      | refine run_guard0t rfl rfl (by omega) ?_
      | refine run_guard0f rfl rfl (by omega) ?_
      | refine run_guard1 rfl rfl (fun h1 => ?_) (fun h1 => ?_)
      | refine run_guard0 rfl rfl (fun h1 => ?_) (fun h1 => ?_)
      | refine run_guard rfl rfl (fun h1 => ?_) (fun h1 => ?_)
      | refine run_nil ?_
      | refine aw_seq ?_
      | refine aw_region (by kernel_rfl) (Nat.le_of_ble_eq_true rfl) ?_
      | refine aw_block ?_
      | refine aw_cond_t rfl ?_
      | refine aw_cond_f rfl ?_
      | refine aw_cond_tp rfl (by omega) ?_
      | refine aw_cond_fp rfl (by omega) ?_
      | refine aw_cond1 rfl (fun h1 => ?_) (fun h1 => ?_)
      | refine aw_cond rfl (fun h1 => ?_) (fun h1 => ?_)
      | refine aw_skip ?_
      | refine aw_exit ?_
      | refine aw_ret ?_
      | refine pp_ret ?_
      | refine pp_normal ?_
    all_goals first | rfl | simp [retOf] | (exfalso; omega)
  · have hb := wdth_bd m (by omega)
    obtain ⟨w1, w2, w3⟩ := wdth_fit m (by omega)
    generalize wdth m = n at HW hb w1 w2 w3
    have hst : unsW [] 0 n m = (bitsOf n.toNat m, 0) := by
      unfold unsW
      rw [fieldW_ok (decide_eq_true hb) (decide_eq_true ⟨by omega, w1⟩) (by simp; omega)]
      rfl
    obtain ⟨Z, hZ⟩ : ∃ Z, pack (bitsOf n.toNat m) = Z := ⟨_, rfl⟩
    obtain ⟨z, hz⟩ : ∃ z, z = Z.length := ⟨_, rfl⟩
    have hk : n = ((bitsOf n.toNat m).length : Int) := by rw [bitsOf_len]; omega
    have HX := ac_unsigned n m 0 0 [] (bitsOf n.toNat m) [] Z 0 z 0 n rfl rfl rfl hst hZ hz hk (by decide) (by omega) hm
    have H1 := ac_bytes z n (bitsOf n.toNat m) Z hZ hz
    have HB := ac_bits z n 0 Z
    by_cases h1 : n = 1
    · have := w3 h1
      subst h1
      refine acalls_pure Try.func5 rfl rfl rfl ?_
      repeat' first
        | refine st ?_
        | refine st_call (ac_awake) ?_
        | refine st_call (HW) ?_
        | refine stMW [] ac_newW ?_
        | refine stMW [0, 1] HX ?_ (hargs := by first | exact WkL.refl _ | fail)
        | refine stRW [0, 4] H1 ?_ (hargs := by first | exact WkL.refl _ | fail)
        | refine stRW [0, 4] HB ?_ (hargs := by first | exact WkL.refl _ | fail)
        | refine stm ?_
        | refine run_want rfl rfl ?_
        | refine run_unwant rfl rfl ?_
        | refine run_undef rfl rfl ?_
        | refine run_guard1t rfl rfl (by omega) ?_
        | refine run_guard1f rfl rfl (by omega) ?_
        | refine run_guard0t rfl rfl (by omega) ?_
        | refine run_guard0f rfl rfl (by omega) ?_
        | refine run_guard1 rfl rfl (fun h1 => ?_) (fun h1 => ?_)
        | refine run_guard0 rfl rfl (fun h1 => ?_) (fun h1 => ?_)
        | refine run_guard rfl rfl (fun h1 => ?_) (fun h1 => ?_)
        | refine run_nil ?_
        | refine aw_seq ?_
        | refine aw_region (by kernel_rfl) (Nat.le_of_ble_eq_true rfl) ?_
        | refine aw_block ?_
        | refine aw_cond_t rfl ?_
        | refine aw_cond_f rfl ?_
        | refine aw_cond_tp rfl (by omega) ?_
        | refine aw_cond_fp rfl (by omega) ?_
        | refine aw_cond1 rfl (fun h1 => ?_) (fun h1 => ?_)
        | refine aw_cond rfl (fun h1 => ?_) (fun h1 => ?_)
        | refine aw_skip ?_
        | refine aw_exit ?_
        | refine aw_ret ?_
        | refine pp_ret ?_
        | refine pp_normal ?_
      all_goals first | rfl | (exfalso; omega) | (simp [retOf]; done) | (simp [retOf]; omega)
    · have w4 := w2 (by omega)
      have hst2 : unsW [] 0 (n - 1) m = ([], 2) := by
        unfold unsW fieldW
        rw [if_neg (by simp), if_neg (by simp; omega), if_pos (decide_eq_false (by omega))]
      have HY := ac_unsigned (n - 1) m 0 2 [] [] [] [] 0 0 0 0 rfl rfl rfl hst2 rfl rfl rfl (by decide) (by omega) hm
      have H2 := ac_bytesE 0 0 2 [] (by decide)
      have HC := ac_bits 0 0 2 []
      refine acalls_pure Try.func5 rfl rfl rfl ?_
      repeat' first
        | refine st ?_
        | refine st_call (ac_awake) ?_
        | refine st_call (HW) ?_
        | refine stMW [] ac_newW ?_
        | refine stMW [0, 1] HX ?_ (hargs := by first | exact WkL.refl _ | fail)
        | refine stRW [0, 4] H1 ?_ (hargs := by first | exact WkL.refl _ | fail)
        | refine stRW [0, 4] HB ?_ (hargs := by first | exact WkL.refl _ | fail)
        | refine stMW [2, 3] HY ?_ (hargs := by first | exact WkL.refl _ | fail)
        | refine stRW [2, 5] H2 ?_ (hargs := by first | exact WkL.refl _ | fail)
        | refine stRW [2, 5] HC ?_ (hargs := by first | exact WkL.refl _ | fail)
        | refine stm ?_
        | refine run_want rfl rfl ?_
        | refine run_unwant rfl rfl ?_
        | refine run_undef rfl rfl ?_
        | refine run_guard1t rfl rfl (by omega) ?_
        | refine run_guard1f rfl rfl (by omega) ?_
        | refine run_guard0t rfl rfl (by omega) ?_
        | refine run_guard0f rfl rfl (by omega) ?_
        | refine run_guard1 rfl rfl (fun h1 => ?_) (fun h1 => ?_)
        | refine run_guard0 rfl rfl (fun h1 => ?_) (fun h1 => ?_)
        | refine run_guard rfl rfl (fun h1 => ?_) (fun h1 => ?_)
        | refine run_nil ?_
        | refine aw_seq ?_
        | refine aw_region (by kernel_rfl) (Nat.le_of_ble_eq_true rfl) ?_
        | refine aw_block ?_
        | refine aw_cond_t rfl ?_
        | refine aw_cond_f rfl ?_
        | refine aw_cond_tp rfl (by omega) ?_
        | refine aw_cond_fp rfl (by omega) ?_
        | refine aw_cond1 rfl (fun h1 => ?_) (fun h1 => ?_)
        | refine aw_cond rfl (fun h1 => ?_) (fun h1 => ?_)
        | refine aw_skip ?_
        | refine aw_exit ?_
        | refine aw_ret ?_
        | refine pp_ret ?_
        | refine pp_normal ?_
      all_goals first | rfl | simp [retOf] | (exfalso; omega)
set_option maxHeartbeats 8000000 in
theorem law_signed (v x : Int) (hv : 0 ≤ v ∧ v ≤ 255) (hx : -9223372036854775808 ≤ x ∧ x ≤ 9223372036854775807) : ACalls Try.prog 6 [.int .u8 v, .int .i64 x] [] (.bool true) [] := by
  have hk : 2 ≤ 2 + v % 61 ∧ 2 + v % 61 ≤ 62 := by omega
  have hcv : IntKind.i64.wrap v = v := wrap64 (by omega)
  obtain ⟨k, hkk⟩ : ∃ k, 2 + v % 61 = k := ⟨_, rfl⟩
  rw [hkk] at hk
  have hpb := pow_bd k (by omega)
  have hp : (0 : Int) < 2 ^ (k - 1).toNat := Int.pow_pos (by decide)
  have hpw : (2 : Int) ^ k.toNat = 2 ^ (k - 1).toNat * 2 := by rw [← Int.pow_succ]; congr 1; omega
  have hp62 : (2 : Int) ^ k.toNat ≤ 4611686018427387904 := by
    have h1 : (2 : Nat) ^ k.toNat ≤ 2 ^ 62 := Nat.pow_le_pow_right (by omega) (by omega)
    have h3 : ((2 ^ k.toNat : Nat) : Int) = (2 : Int) ^ k.toNat := by push_cast; rfl
    omega
  have hW1 : IntKind.i64.wrap (1 * 2 ^ (min (k - 1).toNat IntKind.i64.bits)) = 2 ^ (k - 1).toNat := by
    rw [show min (k - 1).toNat IntKind.i64.bits = (k - 1).toNat by show min (k - 1).toNat 64 = _; omega, Int.one_mul]
    exact wrap64 (by omega)
  have hW2 : IntKind.i64.wrap (1 * 2 ^ (min k.toNat IntKind.i64.bits)) = 2 ^ k.toNat := by
    rw [show min k.toNat IntKind.i64.bits = k.toNat by show min k.toNat 64 = _; omega, Int.one_mul]
    exact wrap64 (by omega)
  have hN : IntKind.i64.wrap (0 - IntKind.i64.wrap (1 * 2 ^ (min (k - 1).toNat IntKind.i64.bits))) = -(2 ^ (k - 1).toNat) := by
    rw [hW1, wrap64 (by omega)]; omega
  have hcut : ∀ {Q : Exit → Slots → Mem → Prop} {c : Code} {n0 : Nat} {σ : Slots} {m : Mem}, AW Try.prog Try.f6.ntmps n0 c Q ((5, .int .i64 k) :: σ) m → AW Try.prog Try.f6.ntmps n0 c Q ((5, .int .i64 (2 + v % 61)) :: σ) m := fun h => by rw [hkk]; exact h
  by_cases hf : -(2 ^ (k - 1).toNat) ≤ x ∧ x < 2 ^ (k - 1).toNat
  · have hst : sgnW [] 0 k x = (bitsOf k.toNat x, 0) := by
      unfold sgnW
      rw [fieldW_ok (decide_eq_true (by omega)) (decide_eq_true hf) (by simp; omega)]
      rfl
    obtain ⟨bs, hbs⟩ : ∃ bs, bitsOf k.toNat x = bs := ⟨_, rfl⟩
    rw [hbs] at hst
    have hbl : bs.length = k.toNat := by rw [← hbs, bitsOf_len]
    have hb1 : B01 bs := hbs ▸ bitsOf_01 _ _
    obtain ⟨Z, hZ⟩ : ∃ Z, pack bs = Z := ⟨_, rfl⟩
    obtain ⟨z, hz⟩ : ∃ z, z = Z.length := ⟨_, rfl⟩
    have HX := ac_signed k x 0 0 [] bs [] Z 0 z 0 k rfl rfl rfl hst hZ hz (by omega) (by decide) (by omega) hx
    have H1 := ac_bytes z k bs Z hZ hz
    obtain ⟨d, hd⟩ : ∃ d, pkB bs = d := ⟨_, rfl⟩
    have e1 : (⟨(Z.map b8).toArray⟩ : ByteArray) = d := by rw [← hZ]; exact hd
    rw [e1] at H1
    have hsz := pkB_size bs
    rw [hd, hbl] at hsz
    have HR := ac_newR d (by omega)
    have hrd : sgnR d 0 0 k = (x, k.toNat, 0) := by
      have hF : fieldR d 0 0 true k = (x % 2 ^ k.toNat, 0 + k.toNat, 0) := by
        unfold fieldR
        rw [if_neg (by simp), if_neg (by simp), if_neg (by omega)]
        have := rdN_bits bs hb1 [] [] k.toNat x (by simp [hbs])
        rw [hd] at this
        rw [show ([] : List Int).length = 0 from rfl] at this
        rw [this]
      unfold sgnR
      rw [decide_eq_true (show 2 ≤ k ∧ k ≤ 63 by omega), hF]
      dsimp only
      congr 1
      · by_cases hx0 : 0 ≤ x
        · rw [Int.emod_eq_of_lt hx0 (by omega), if_neg (by omega)]
        · have e : x % 2 ^ k.toNat = x + 2 ^ k.toNat := by
            rw [← Int.add_emod_right, Int.emod_eq_of_lt (by omega) (by omega)]
          rw [e, if_pos (by omega)]
          omega
      · rw [Nat.zero_add]
    have HS := ac_sgnR k 0 0 0 x 0 k.toNat d hrd (Nat.zero_le _) (by omega) (by omega)
    by_cases hneg : x < 0
    · obtain ⟨u, hu⟩ : ∃ u, x + IntKind.i64.wrap (1 * 2 ^ (min k.toNat IntKind.i64.bits)) = u := ⟨_, rfl⟩
      have hst2 : unsW [] 0 k u = (bs, 0) := by
        unfold unsW
        rw [fieldW_ok (decide_eq_true (by omega)) (decide_eq_true (by omega)) (by simp; omega)]
        rw [← hbs, ← hu, hW2]
        rw [List.nil_append, bitsOf_congr k.toNat (x + 2 ^ k.toNat) x (Int.add_emod_right ..)]
      have HY := ac_unsigned k u 0 0 [] bs [] Z 0 z 0 k rfl rfl rfl hst2 hZ hz (by omega) (by decide) (by omega) (by omega)
      rw [← hu] at HY
      refine acalls_pure Try.func6 rfl rfl rfl ?_
      repeat' first
        | refine st (h := ok_conv_in rfl (show IntKind.i64.min ≤ v by simp [IntKind.min, IntKind.signed, IntKind.bits]; omega) (show v ≤ IntKind.i64.max by simp [IntKind.max, IntKind.signed, IntKind.bits]; omega)) ?_
        | refine hcut ?_
        | refine st (h := ok_str_eqlT rfl rfl) ?_
        | refine st (h := ok_str_neqF rfl rfl) ?_
        | refine st ?_
        | refine st_call (ac_awake) ?_
        | refine stMW [] ac_newW ?_
        | refine stMW [0, 1] HX ?_ (hargs := by first | exact WkL.refl _ | fail)
        | refine stRW [0, 4] H1 ?_ (hargs := by first | exact WkL.refl _ | fail)
        | refine stMW [2, 3] HY ?_ (hargs := by first | exact WkL.refl _ | fail)
        | refine stRW [2, 5] H1 ?_ (hargs := by first | exact WkL.refl _ | fail)
        | refine stMW [] HR ?_
        | refine stMW [6] HS ?_
        | refine stm ?_
        | refine run_want rfl rfl ?_
        | refine run_unwant rfl rfl ?_
        | refine run_undef rfl rfl ?_
        | refine run_guard1t rfl rfl (by omega) ?_
        | refine run_guard1f rfl rfl (by omega) ?_
        | refine run_guard0t rfl rfl (by omega) ?_
        | refine run_guard0f rfl rfl (by omega) ?_
        | refine run_guard1 rfl rfl (fun h1 => ?_) (fun h1 => ?_)
        | refine run_guard0 rfl rfl (fun h1 => ?_) (fun h1 => ?_)
        | refine run_guard rfl rfl (fun h1 => ?_) (fun h1 => ?_)
        | refine run_nil ?_
        | refine aw_seq ?_
        | refine aw_region (by kernel_rfl) (Nat.le_of_ble_eq_true rfl) ?_
        | refine aw_block ?_
        | refine aw_cond_t rfl ?_
        | refine aw_cond_f rfl ?_
        | refine aw_cond_tp rfl (by omega) ?_
        | refine aw_cond_fp rfl (by omega) ?_
        | refine aw_cond1 rfl (fun h1 => ?_) (fun h1 => ?_)
        | refine aw_cond rfl (fun h1 => ?_) (fun h1 => ?_)
        | refine aw_skip ?_
        | refine aw_exit ?_
        | refine aw_ret ?_
        | refine pp_ret ?_
        | refine pp_normal ?_
      all_goals first | rfl | simp [retOf] | (exfalso; omega)
    · have hst2 : unsW [] 0 k x = (bs, 0) := by
        unfold unsW
        rw [fieldW_ok (decide_eq_true (by omega)) (decide_eq_true (by omega)) (by simp; omega), hbs]
        rfl
      have HY := ac_unsigned k x 0 0 [] bs [] Z 0 z 0 k rfl rfl rfl hst2 hZ hz (by omega) (by decide) (by omega) hx
      refine acalls_pure Try.func6 rfl rfl rfl ?_
      repeat' first
        | refine st (h := ok_conv_in rfl (show IntKind.i64.min ≤ v by simp [IntKind.min, IntKind.signed, IntKind.bits]; omega) (show v ≤ IntKind.i64.max by simp [IntKind.max, IntKind.signed, IntKind.bits]; omega)) ?_
        | refine hcut ?_
        | refine st (h := ok_str_eqlT rfl rfl) ?_
        | refine st (h := ok_str_neqF rfl rfl) ?_
        | refine st ?_
        | refine st_call (ac_awake) ?_
        | refine stMW [] ac_newW ?_
        | refine stMW [0, 1] HX ?_ (hargs := by first | exact WkL.refl _ | fail)
        | refine stRW [0, 4] H1 ?_ (hargs := by first | exact WkL.refl _ | fail)
        | refine stMW [2, 3] HY ?_ (hargs := by first | exact WkL.refl _ | fail)
        | refine stRW [2, 5] H1 ?_ (hargs := by first | exact WkL.refl _ | fail)
        | refine stMW [] HR ?_
        | refine stMW [6] HS ?_
        | refine stm ?_
        | refine run_want rfl rfl ?_
        | refine run_unwant rfl rfl ?_
        | refine run_undef rfl rfl ?_
        | refine run_guard1t rfl rfl (by omega) ?_
        | refine run_guard1f rfl rfl (by omega) ?_
        | refine run_guard0t rfl rfl (by omega) ?_
        | refine run_guard0f rfl rfl (by omega) ?_
        | refine run_guard1 rfl rfl (fun h1 => ?_) (fun h1 => ?_)
        | refine run_guard0 rfl rfl (fun h1 => ?_) (fun h1 => ?_)
        | refine run_guard rfl rfl (fun h1 => ?_) (fun h1 => ?_)
        | refine run_nil ?_
        | refine aw_seq ?_
        | refine aw_region (by kernel_rfl) (Nat.le_of_ble_eq_true rfl) ?_
        | refine aw_block ?_
        | refine aw_cond_t rfl ?_
        | refine aw_cond_f rfl ?_
        | refine aw_cond_tp rfl (by omega) ?_
        | refine aw_cond_fp rfl (by omega) ?_
        | refine aw_cond1 rfl (fun h1 => ?_) (fun h1 => ?_)
        | refine aw_cond rfl (fun h1 => ?_) (fun h1 => ?_)
        | refine aw_skip ?_
        | refine aw_exit ?_
        | refine aw_ret ?_
        | refine pp_ret ?_
        | refine pp_normal ?_
      all_goals first | rfl | simp [retOf] | (exfalso; omega)
  · have hst : sgnW [] 0 k x = ([], 2) := by
      unfold sgnW fieldW
      rw [if_neg (by simp), if_neg (by simp; omega), if_pos (decide_eq_false hf)]
    have HX := ac_signed k x 0 2 [] [] [] [] 0 0 0 0 rfl rfl rfl hst rfl rfl rfl (by decide) (by omega) hx
    have H1 := ac_bytesE 0 0 2 [] (by decide)
    refine acalls_pure Try.func6 rfl rfl rfl ?_
    repeat' first
      | refine st (h := ok_conv_in rfl (show IntKind.i64.min ≤ v by simp [IntKind.min, IntKind.signed, IntKind.bits]; omega) (show v ≤ IntKind.i64.max by simp [IntKind.max, IntKind.signed, IntKind.bits]; omega)) ?_
      | refine hcut ?_
      | refine st (h := ok_str_eqlT rfl rfl) ?_
      | refine st (h := ok_str_neqF rfl rfl) ?_
      | refine st ?_
      | refine st_call (ac_awake) ?_
      | refine stMW [] ac_newW ?_
      | refine stMW [0, 1] HX ?_ (hargs := by first | exact WkL.refl _ | fail)
      | refine stRW [0, 4] H1 ?_ (hargs := by first | exact WkL.refl _ | fail)
      | refine stm ?_
      | refine run_want rfl rfl ?_
      | refine run_unwant rfl rfl ?_
      | refine run_undef rfl rfl ?_
      | refine run_guard1t rfl rfl (by omega) ?_
      | refine run_guard1f rfl rfl (by omega) ?_
      | refine run_guard0t rfl rfl (by omega) ?_
      | refine run_guard0f rfl rfl (by omega) ?_
      | refine run_guard1 rfl rfl (fun h1 => ?_) (fun h1 => ?_)
      | refine run_guard0 rfl rfl (fun h1 => ?_) (fun h1 => ?_)
      | refine run_guard rfl rfl (fun h1 => ?_) (fun h1 => ?_)
      | refine run_nil ?_
      | refine aw_seq ?_
      | refine aw_region (by kernel_rfl) (Nat.le_of_ble_eq_true rfl) ?_
      | refine aw_block ?_
      | refine aw_cond_t rfl ?_
      | refine aw_cond_f rfl ?_
      | refine aw_cond_tp rfl (by omega) ?_
      | refine aw_cond_fp rfl (by omega) ?_
      | refine aw_cond1 rfl (fun h1 => ?_) (fun h1 => ?_)
      | refine aw_cond rfl (fun h1 => ?_) (fun h1 => ?_)
      | refine aw_skip ?_
      | refine aw_exit ?_
      | refine aw_ret ?_
      | refine pp_ret ?_
      | refine pp_normal ?_
    all_goals first | rfl | simp [retOf] | (exfalso; omega)
end Go.Proofs.Ytmmaolnjjjdecaa
