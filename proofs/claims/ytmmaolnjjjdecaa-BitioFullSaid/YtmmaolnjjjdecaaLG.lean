/- BitioFull: the law. -/
import Derived.Test.YtmmaolnjjjdecaaLF
set_option linter.unusedVariables false
set_option linter.unusedSimpArgs false
namespace Go.Proofs.Ytmmaolnjjjdecaa
open Go Av
set_option maxRecDepth 20000
structure V1g where
  i : Nat
  bs : List Int
  Z : List Int
  n : Nat
  k : Int
def txt4 : ByteArray := ⟨(List.replicate 4000 (0 : UInt8)).toArray⟩
theorem txt4_size : txt4.size = 4000 := by show (List.replicate 4000 (0 : UInt8)).toArray.size = 4000; simp
theorem txt4_cells : List.take (4000 * 1) (List.drop 0 (List.replicate 4000 (Value.int .u8 0))) = (List.replicate 4000 (0 : UInt8)).map u8v := by
  rw [List.drop_zero, List.take_of_length_le (by simp), List.map_replicate]
  rfl
theorem w4000 : wdth 4000 = 12 := by decide +kernel
theorem ok_lssD {P : Program} {ρ : Operand → Option Value} {m : Mem} {dd : Option Tmp} {t : TypeId} {pp : String} {af : Array Edge} {g : Option (Nat × Bool)} {xt yt : TypeId} {x y : Operand} {k : IntKind} {a b : Int} {c : Bool} (hx : ρ x = some (.int k a)) (hy : ρ y = some (.int k b)) (h : decide (a < b) = c) : OpOK P ⟨dd, .binOp .lss xt x y yt, t, pp, af, g⟩ ρ m (.bool c) m := by
  subst h
  exact ok_lss hx hy
set_option maxHeartbeats 8000000 in
theorem law_full (v : Int) (hv : 0 ≤ v ∧ v ≤ 255) : ACalls Try.prog 10 [.int .u8 v] [] (.bool true) [] := by
  have hcv : IntKind.i64.wrap v = v := wrap64 (by omega)
  have hts := txt4_size
  refine acalls_pure Try.func10 rfl rfl rfl ?_
  repeat' first
    | refine st (h := ok_bytes_str (l := List.replicate 4000 (0 : UInt8)) rfl rfl (by simp) txt4_cells) ?_
    | refine st ?_
    | refine st_call (ac_awake) ?_
    | refine stMW [] ac_newW ?_
    | refine stm ?_
    | refine run_want rfl rfl ?_
    | refine run_unwant rfl rfl ?_
    | refine run_undef rfl rfl ?_
    | refine run_guard1t rfl rfl (by omega) ?_
    | refine run_guard1f rfl rfl (by omega) ?_
    | refine run_guard0t rfl rfl (by omega) ?_
    | refine run_guard0f rfl rfl (by omega) ?_
    | refine run_guard1 rfl rfl (fun h1 => ?_) (fun h1 => ?_)
    | refine run_guard0 rfl rfl (fun h1 => ?_) (fun h1 => ?_)
    | refine run_guard rfl rfl (fun h1 => ?_) (fun h1 => ?_)
    | refine run_nil ?_
    | refine aw_seq ?_
    | refine aw_region (by kernel_rfl) (Nat.le_of_ble_eq_true rfl) ?_
    | refine aw_block ?_
    | refine aw_cond_t rfl ?_
    | refine aw_cond_f rfl ?_
    | refine aw_cond_tp rfl (by omega) ?_
    | refine aw_cond_fp rfl (by omega) ?_
    | refine aw_cond1 rfl (fun h1 => ?_) (fun h1 => ?_)
    | refine aw_cond rfl (fun h1 => ?_) (fun h1 => ?_)
    | refine aw_skip ?_
    | refine aw_exit ?_
    | refine aw_ret ?_
    | refine pp_ret ?_
    | refine pp_normal ?_
  refine aw_loopg
    (S := fun y : V1g => [(0, .int .u8 v), (3, .pointer (some ⟨0, 0, none⟩)), (4, .int .i64 y.k), (5, .string txt4), (18, .int .i64 y.i)])
    (B := fun y : V1g => [some ⟨[.slice (some ⟨1, 0, none⟩) y.n y.n, .int .i64 y.k, .int .i64 0], true, 1⟩, some ⟨List.map (Value.int .u8) y.Z, true, 1⟩])
    (R := fun y : V1g => y.i ≤ 16 ∧ pack y.bs = y.Z ∧ y.n = y.Z.length ∧ y.k = y.bs.length ∧ y.bs.length = 32012 * y.i)
    (μ := fun y : V1g => 16 - y.i) ⟨0, [], [], 0, 0⟩ (fitsD [0, 1]) ⟨Nat.zero_le _, rfl, rfl, rfl, rfl⟩ ?_
  rintro ⟨i, bs, Z, n, k⟩ ⟨g1, hZ, hn, hk, hl⟩
  dsimp only at *
  by_cases hi : i < 16
  · obtain ⟨bs', hb'⟩ : ∃ bs', bs ++ bitsOf (wdth 4000).toNat (txt4.size : Int) ++ strBits txt4 txt4.size = bs' := ⟨_, rfl⟩
    have hl' : bs'.length = 32012 * (i + 1) := by
      rw [← hb', List.length_append, List.length_append, bitsOf_len, strBits_len, hts, w4000]
      show bs.length + 12 + 8 * 4000 = _
      omega
    have hst : txtW bs 0 4000 txt4 = (bs', 0) := by
      unfold txtW
      rw [if_neg (by simp), if_neg (by omega), if_neg (by rw [w4000, hts]; omega), hb']
    obtain ⟨Z', hZ'⟩ : ∃ Z', pack bs' = Z' := ⟨_, rfl⟩
    obtain ⟨n', hn'⟩ : ∃ n', n' = Z'.length := ⟨_, rfl⟩
    obtain ⟨k', hk'⟩ : ∃ k' : Int, k' = bs'.length := ⟨_, rfl⟩
    have HX := ac_text 4000 txt4 0 0 bs bs' Z Z' n n' k k' hZ hn hk hst hZ' hn' hk' (by omega) (by decide) (by omega)
    obtain rfl : k + 32012 = k' := by omega
    repeat' first
      | refine st ?_
      | refine stMW [0, 1] HX ?_
      | refine stm ?_
      | refine run_want rfl rfl ?_
      | refine run_unwant rfl rfl ?_
      | refine run_undef rfl rfl ?_
      | refine run_guard1t rfl rfl (by omega) ?_
      | refine run_guard1f rfl rfl (by omega) ?_
      | refine run_guard0t rfl rfl (by omega) ?_
      | refine run_guard0f rfl rfl (by omega) ?_
      | refine run_guard1 rfl rfl (fun h1 => ?_) (fun h1 => ?_)
      | refine run_guard0 rfl rfl (fun h1 => ?_) (fun h1 => ?_)
      | refine run_guard rfl rfl (fun h1 => ?_) (fun h1 => ?_)
      | refine run_nil ?_
      | refine aw_seq ?_
      | refine aw_region (by kernel_rfl) (Nat.le_of_ble_eq_true rfl) ?_
      | refine aw_block ?_
      | refine aw_cond_t rfl ?_
      | refine aw_cond_f rfl ?_
      | refine aw_cond_tp rfl (by omega) ?_
      | refine aw_cond_fp rfl (by omega) ?_
      | refine aw_cond1 rfl (fun h1 => ?_) (fun h1 => ?_)
      | refine aw_cond rfl (fun h1 => ?_) (fun h1 => ?_)
      | refine aw_skip ?_
      | refine aw_exit ?_
      | refine aw_ret ?_
      | refine pp_ret ?_
      | refine pp_normal ?_
    all_goals first | exact Exists.intro ⟨i + 1, bs', Z', n', k + 32012⟩ ⟨fitsD [0, 2], ⟨hi, hZ', hn', hk', hl'⟩, by dsimp only; omega⟩ | (exfalso; omega)
  · obtain rfl : i = 16 := by omega
    repeat' first
      | refine st ?_
      | refine stm ?_
      | refine run_want rfl rfl ?_
      | refine run_unwant rfl rfl ?_
      | refine run_undef rfl rfl ?_
      | refine run_guard1t rfl rfl (by omega) ?_
      | refine run_guard1f rfl rfl (by omega) ?_
      | refine run_guard0t rfl rfl (by omega) ?_
      | refine run_guard0f rfl rfl (by omega) ?_
      | refine run_guard1 rfl rfl (fun h1 => ?_) (fun h1 => ?_)
      | refine run_guard0 rfl rfl (fun h1 => ?_) (fun h1 => ?_)
      | refine run_guard rfl rfl (fun h1 => ?_) (fun h1 => ?_)
      | refine run_nil ?_
      | refine aw_seq ?_
      | refine aw_region (by kernel_rfl) (Nat.le_of_ble_eq_true rfl) ?_
      | refine aw_block ?_
      | refine aw_cond_t rfl ?_
      | refine aw_cond_f rfl ?_
      | refine aw_cond_tp rfl (by omega) ?_
      | refine aw_cond_fp rfl (by omega) ?_
      | refine aw_cond1 rfl (fun h1 => ?_) (fun h1 => ?_)
      | refine aw_cond rfl (fun h1 => ?_) (fun h1 => ?_)
      | refine aw_skip ?_
      | refine aw_exit ?_
      | refine aw_ret ?_
      | refine pp_ret ?_
      | refine pp_normal ?_
    refine aw_loopg
      (S := fun y : V1g => [(0, .int .u8 v), (3, .pointer (some ⟨0, 0, none⟩)), (4, .int .i64 y.k)])
      (B := fun y : V1g => [some ⟨[.slice (some ⟨1, 0, none⟩) y.n y.n, .int .i64 y.k, .int .i64 0], true, 1⟩, some ⟨List.map (Value.int .u8) y.Z, true, 1⟩])
      (R := fun y : V1g => pack y.bs = y.Z ∧ y.n = y.Z.length ∧ y.k = y.bs.length ∧ y.bs.length ≤ 524288)
      (μ := fun y : V1g => 524288 - y.bs.length) ⟨0, bs, Z, n, k⟩ (fitsD [0, 1]) ⟨hZ, hn, hk, by dsimp only; omega⟩ ?_
    clear hZ hn hk hl
    rintro ⟨j, cs, Y, p, q⟩ ⟨hZ, hn, hk, hl⟩
    dsimp only at *
    by_cases hj : q + 60 ≤ 524288
    · obtain ⟨cs', hc'⟩ : ∃ cs', cs ++ bitsOf (60 : Int).toNat 1 = cs' := ⟨_, rfl⟩
      have hl' : cs'.length = cs.length + 60 := by rw [← hc', List.length_append, bitsOf_len]; rfl
      have hst : unsW cs 0 60 1 = (cs', 0) := by
        unfold unsW
        rw [fieldW_ok (by decide) (by decide) (by omega), hc']
      obtain ⟨Z', hZ'⟩ : ∃ Z', pack cs' = Z' := ⟨_, rfl⟩
      obtain ⟨n', hn'⟩ : ∃ n', n' = Z'.length := ⟨_, rfl⟩
      obtain ⟨k', hk'⟩ : ∃ k' : Int, k' = cs'.length := ⟨_, rfl⟩
      have HX := ac_unsigned 60 1 0 0 cs cs' Y Z' p n' q k' hZ hn hk hst hZ' hn' hk' hl (by decide) (by decide)
      obtain rfl : q + 60 = k' := by omega
      repeat' first
        | refine st ?_
        | refine stMW [0, 1] HX ?_
        | refine stm ?_
        | refine run_want rfl rfl ?_
        | refine run_unwant rfl rfl ?_
        | refine run_undef rfl rfl ?_
        | refine run_guard1t rfl rfl (by omega) ?_
        | refine run_guard1f rfl rfl (by omega) ?_
        | refine run_guard0t rfl rfl (by omega) ?_
        | refine run_guard0f rfl rfl (by omega) ?_
        | refine run_guard1 rfl rfl (fun h1 => ?_) (fun h1 => ?_)
        | refine run_guard0 rfl rfl (fun h1 => ?_) (fun h1 => ?_)
        | refine run_guard rfl rfl (fun h1 => ?_) (fun h1 => ?_)
        | refine run_nil ?_
        | refine aw_seq ?_
        | refine aw_region (by kernel_rfl) (Nat.le_of_ble_eq_true rfl) ?_
        | refine aw_block ?_
        | refine aw_cond_t rfl ?_
        | refine aw_cond_f rfl ?_
        | refine aw_cond_tp rfl (by omega) ?_
        | refine aw_cond_fp rfl (by omega) ?_
        | refine aw_cond1 rfl (fun h1 => ?_) (fun h1 => ?_)
        | refine aw_cond rfl (fun h1 => ?_) (fun h1 => ?_)
        | refine aw_skip ?_
        | refine aw_exit ?_
        | refine aw_ret ?_
        | refine pp_ret ?_
        | refine pp_normal ?_
      all_goals first | exact Exists.intro ⟨0, cs', Z', n', q + 60⟩ ⟨fitsD [0, 2], ⟨hZ', hn', hk', by dsimp only; omega⟩, by dsimp only; omega⟩ | (exfalso; omega)
    · obtain ⟨w, hw⟩ : ∃ w, 1 + v % 62 = w := ⟨_, rfl⟩
      have hcut : ∀ {Q : Exit → Slots → Mem → Prop} {c : Code} {n0 : Nat} {σ : Slots} {m : Mem}, AW Try.prog Try.f10.ntmps n0 c Q ((7, .int .i64 w) :: σ) m → AW Try.prog Try.f10.ntmps n0 c Q ((7, .int .i64 (1 + v % 62)) :: σ) m := fun h => by rw [hw]; exact h
      have hfit : (0 : Int) ≤ 1 ∧ (1 : Int) < 2 ^ w.toNat := by
        have h1 : (2 : Nat) ^ 1 ≤ 2 ^ w.toNat := Nat.pow_le_pow_right (by omega) (by omega)
        have h3 : ((2 ^ w.toNat : Nat) : Int) = (2 : Int) ^ w.toNat := by push_cast; rfl
        omega
      by_cases hbig : q + w > 524288
      · have hst : unsW cs 0 w 1 = (cs, 8) := by
          unfold unsW fieldW
          rw [if_neg (by simp), if_neg (by simp; omega), if_neg (by simp only [decide_eq_true hfit]; simp), if_pos (by omega)]
        have HX := ac_unsigned w 1 0 8 cs cs Y Y p p q q hZ hn hk hst hZ hn hk hl (by omega) (by decide)
        have H1 := ac_bytesE p q 8 Y (by decide)
        have HB := ac_bits p q 8 Y
        repeat' first
          | refine st (h := ok_conv_in rfl (show IntKind.i64.min ≤ v by simp [IntKind.min, IntKind.signed, IntKind.bits]; omega) (show v ≤ IntKind.i64.max by simp [IntKind.max, IntKind.signed, IntKind.bits]; omega)) ?_
          | refine hcut ?_
          | refine st (h := ok_str_eqlT rfl rfl) ?_
          | refine st (h := ok_str_neqF rfl rfl) ?_
          | refine st ?_
          | refine stMW [0, 1] HX ?_
          | refine stRW [0, 2] H1 ?_
          | refine stRW [0, 2] HB ?_
          | refine stm ?_
          | refine run_want rfl rfl ?_
          | refine run_unwant rfl rfl ?_
          | refine run_undef rfl rfl ?_
          | refine run_guard1t rfl rfl (by omega) ?_
          | refine run_guard1f rfl rfl (by omega) ?_
          | refine run_guard0t rfl rfl (by omega) ?_
          | refine run_guard0f rfl rfl (by omega) ?_
          | refine run_guard1 rfl rfl (fun h1 => ?_) (fun h1 => ?_)
          | refine run_guard0 rfl rfl (fun h1 => ?_) (fun h1 => ?_)
          | refine run_guard rfl rfl (fun h1 => ?_) (fun h1 => ?_)
          | refine run_nil ?_
          | refine aw_seq ?_
          | refine aw_region (by kernel_rfl) (Nat.le_of_ble_eq_true rfl) ?_
          | refine aw_block ?_
          | refine aw_cond_t rfl ?_
          | refine aw_cond_f rfl ?_
          | refine aw_cond_tp rfl (by omega) ?_
          | refine aw_cond_fp rfl (by omega) ?_
          | refine aw_cond1 rfl (fun h1 => ?_) (fun h1 => ?_)
          | refine aw_cond rfl (fun h1 => ?_) (fun h1 => ?_)
          | refine aw_skip ?_
          | refine aw_exit ?_
          | refine aw_ret ?_
          | refine pp_ret ?_
          | refine pp_normal ?_
        all_goals first | rfl | (exfalso; omega) | (simp [retOf]; done)
      · obtain ⟨cs', hc'⟩ : ∃ cs', cs ++ bitsOf w.toNat 1 = cs' := ⟨_, rfl⟩
        have hl' : cs'.length = cs.length + w.toNat := by rw [← hc', List.length_append, bitsOf_len]
        have hst : unsW cs 0 w 1 = (cs', 0) := by
          unfold unsW
          rw [fieldW_ok (decide_eq_true (by omega)) (decide_eq_true hfit) (by omega), hc']
        obtain ⟨Z', hZ'⟩ : ∃ Z', pack cs' = Z' := ⟨_, rfl⟩
        obtain ⟨n', hn'⟩ : ∃ n', n' = Z'.length := ⟨_, rfl⟩
        obtain ⟨k', hk'⟩ : ∃ k' : Int, k' = cs'.length := ⟨_, rfl⟩
        have HX := ac_unsigned w 1 0 0 cs cs' Y Z' p n' q k' hZ hn hk hst hZ' hn' hk' hl (by omega) (by decide)
        have H1 := ac_bytes n' k' cs' Z' hZ' hn'
        have HB := ac_bits n' k' 0 Z'
        obtain ⟨d, hd⟩ : ∃ d, pkB cs' = d := ⟨_, rfl⟩
        have e1 : (⟨(Z'.map b8).toArray⟩ : ByteArray) = d := by rw [← hZ']; exact hd
        rw [e1] at H1
        have hsz := pkB_size cs'
        rw [hd] at hsz
        have hs0 : (ByteArray.mk #[0]).size = 1 := rfl
        have hsa : (d ++ ⟨#[0]⟩).size = d.size + 1 := by rw [ByteArray.size_append]; rfl
        by_cases hfull : d.size = 65536
        · have HR := ac_newRE (d ++ ⟨#[0]⟩) (by omega)
          have HE := ac_err 0 8 ⟨#[]⟩
          have hlt : decide ((d.size : Int) < 65536) = false := decide_eq_false (by omega)
          have HL := ac_left0 0 8 ⟨#[]⟩ (by decide)
          repeat' first
            | refine st (h := ok_conv_in rfl (show IntKind.i64.min ≤ v by simp [IntKind.min, IntKind.signed, IntKind.bits]; omega) (show v ≤ IntKind.i64.max by simp [IntKind.max, IntKind.signed, IntKind.bits]; omega)) ?_
            | refine hcut ?_
            | refine st (h := ok_str_add (s := d) (u := ⟨#[0]⟩) rfl rfl (by omega)) ?_
            | refine st (h := ok_lssD rfl rfl hlt) ?_
            | refine st (h := ok_str_eqlT rfl rfl) ?_
            | refine st (h := ok_str_neqF rfl rfl) ?_
            | refine st ?_
            | refine stMW [0, 1] HX ?_
            | refine stRW [0, 2] H1 ?_
            | refine stRW [0, 2] HB ?_
            | refine stMW [] HR ?_
            | refine stRW [3] HE ?_
            | refine stRW [3] HL ?_
            | refine stm ?_
            | refine run_want rfl rfl ?_
            | refine run_unwant rfl rfl ?_
            | refine run_undef rfl rfl ?_
            | refine run_guard1t rfl rfl (by omega) ?_
            | refine run_guard1f rfl rfl (by omega) ?_
            | refine run_guard0t rfl rfl (by omega) ?_
            | refine run_guard0f rfl rfl (by omega) ?_
            | refine run_guard1 rfl rfl (fun h1 => ?_) (fun h1 => ?_)
            | refine run_guard0 rfl rfl (fun h1 => ?_) (fun h1 => ?_)
            | refine run_guard rfl rfl (fun h1 => ?_) (fun h1 => ?_)
            | refine run_nil ?_
            | refine aw_seq ?_
            | refine aw_region (by kernel_rfl) (Nat.le_of_ble_eq_true rfl) ?_
            | refine aw_block ?_
            | refine aw_cond_t rfl ?_
            | refine aw_cond_f rfl ?_
            | refine aw_cond_tp rfl (by omega) ?_
            | refine aw_cond_fp rfl (by omega) ?_
            | refine aw_cond1 rfl (fun h1 => ?_) (fun h1 => ?_)
            | refine aw_cond rfl (fun h1 => ?_) (fun h1 => ?_)
            | refine aw_skip ?_
            | refine aw_exit ?_
            | refine aw_ret ?_
            | refine pp_ret ?_
            | refine pp_normal ?_
          all_goals first | rfl | (exfalso; omega) | (simp [retOf]; done)
        · have HR := ac_newR (d ++ ⟨#[0]⟩) (by omega)
          have hlt : decide ((d.size : Int) < 65536) = true := decide_eq_true (by omega)
          repeat' first
            | refine st (h := ok_conv_in rfl (show IntKind.i64.min ≤ v by simp [IntKind.min, IntKind.signed, IntKind.bits]; omega) (show v ≤ IntKind.i64.max by simp [IntKind.max, IntKind.signed, IntKind.bits]; omega)) ?_
            | refine hcut ?_
            | refine st (h := ok_str_add (s := d) (u := ⟨#[0]⟩) rfl rfl (by omega)) ?_
            | refine st (h := ok_lssD rfl rfl hlt) ?_
            | refine st (h := ok_str_eqlT rfl rfl) ?_
            | refine st (h := ok_str_neqF rfl rfl) ?_
            | refine st ?_
            | refine stMW [0, 1] HX ?_
            | refine stRW [0, 2] H1 ?_
            | refine stRW [0, 2] HB ?_
            | refine stMW [] HR ?_
            | refine stm ?_
            | refine run_want rfl rfl ?_
            | refine run_unwant rfl rfl ?_
            | refine run_undef rfl rfl ?_
            | refine run_guard1t rfl rfl (by omega) ?_
            | refine run_guard1f rfl rfl (by omega) ?_
            | refine run_guard0t rfl rfl (by omega) ?_
            | refine run_guard0f rfl rfl (by omega) ?_
            | refine run_guard1 rfl rfl (fun h1 => ?_) (fun h1 => ?_)
            | refine run_guard0 rfl rfl (fun h1 => ?_) (fun h1 => ?_)
            | refine run_guard rfl rfl (fun h1 => ?_) (fun h1 => ?_)
            | refine run_nil ?_
            | refine aw_seq ?_
            | refine aw_region (by kernel_rfl) (Nat.le_of_ble_eq_true rfl) ?_
            | refine aw_block ?_
            | refine aw_cond_t rfl ?_
            | refine aw_cond_f rfl ?_
            | refine aw_cond_tp rfl (by omega) ?_
            | refine aw_cond_fp rfl (by omega) ?_
            | refine aw_cond1 rfl (fun h1 => ?_) (fun h1 => ?_)
            | refine aw_cond rfl (fun h1 => ?_) (fun h1 => ?_)
            | refine aw_skip ?_
            | refine aw_exit ?_
            | refine aw_ret ?_
            | refine pp_ret ?_
            | refine pp_normal ?_
          all_goals first | rfl | (exfalso; omega) | (simp [retOf]; done)
end Go.Proofs.Ytmmaolnjjjdecaa
