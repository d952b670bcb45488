/- Bits: the writer; Bits: the reader; Bits: the reader's end, the reference's reader; Bits: the reader's end, the reference's reader; Bits: packed bytes; Bits: writers without an error. -/
import Derived.Test.YtdbcbclapipgdaaGreatDoorVO
import Derived.Test.YtdbcbclapipgdaaGreatDoorJ
import Derived.Test.YtdbcbclapipgdaaGreatDoorC4
set_option linter.unusedVariables false
set_option linter.unusedSimpArgs false
namespace Go.Proofs.YtdbcbclapipgdaaGreatDoor
open Go Av
set_option maxRecDepth 20000
theorem ac_flag (v : Bool) (e e' : Int) (bs bs' Z Z' : List Int) (n n' : Nat) (k k' : Int) (hZ : pack bs = Z) (hn : n = Z.length) (hk : k = bs.length) (hst : flgW bs e v = (bs', e')) (hZ' : pack bs' = Z') (hn' : n' = Z'.length) (hk' : k' = bs'.length) (hl : bs.length ≤ 524288) :
    ACalls Tryz.prog 122 [.pointer (some ⟨0, 0, none⟩), .bool v] [some ⟨[.slice (some ⟨1, 0, none⟩) n n, .int .i64 k, .int .i64 e], true, 1⟩, some ⟨List.map (Value.int .u8) Z, true, 1⟩] (.tuple #[]) [some ⟨[.slice (some ⟨2, 0, none⟩) n' n', .int .i64 k', .int .i64 e'], true, 1⟩, none, some ⟨List.map (Value.int .u8) Z', true, 1⟩] := by
  unfold flgW at hst
  have HF := ac_field true true 1 (if v then 1 else 0) e e' bs bs' Z Z' n n' k k' hZ hn hk hst hZ' hn' hk' hl (by simp) (by cases v <;> decide)
  cases v
  · refine acalls_of_aw Tryz.func122 rfl rfl ?_
    repeat' first | refine st ?_ | refine stMW [0, 1] HF ?_ | refine run_nil ?_ | refine Jz ?_ | refine Jw ?_ | refine Jr ?_ | refine Jy ?_
    exact pm_normal _ (renumD [0, 1, 2]) rfl
  · refine acalls_of_aw Tryz.func122 rfl rfl ?_
    repeat' first | refine st ?_ | refine stMW [0, 1] HF ?_ | refine run_nil ?_ | refine Jz ?_ | refine Jw ?_ | refine Jq ?_
    exact pm_normal _ (renumD [0, 1, 2]) rfl
theorem ac_newW : ACalls Tryz.prog 121 [] [] (.pointer (some ⟨0, 0, none⟩)) [some ⟨[.slice (some ⟨1, 0, none⟩) 0 0, .int .i64 0, .int .i64 0], true, 1⟩, some ⟨List.map (Value.int .u8) [], true, 1⟩] := by
  refine acalls_of_aw Tryz.func121 rfl rfl ?_
  refine aw_ghost 1 rfl ?_
  repeat' first | refine st ?_ | refine stm ?_ | refine run_nil ?_ | refine Jz ?_ | refine Jw ?_ | refine aw_ret ?_
  exact pm_ret _ (renumD [1, 0]) rfl
theorem pkN_rng (bs : List Int) : ∀ k, ∀ z ∈ pkN bs k, 0 ≤ z ∧ z ≤ 255
  | 0, z, h => by simp [pkN] at h
  | k + 1, z, h => by
    have ih := pkN_rng bs k
    rw [pkN, pkS] at h
    rcases List.mem_or_eq_of_mem_set h with h | h
    · split at h
      · rcases List.mem_append.1 h with h | h
        · exact ih z h
        · simp at h; omega
      · exact ih z h
    · rw [h]
      exact wrap8' _
theorem bytes_u8 (Z : List Int) (h : ∀ z ∈ Z, 0 ≤ z ∧ z ≤ 255) : Z.map (Value.int .u8) = (Z.map b8).map u8v := by
  rw [List.map_map]
  apply List.map_congr_left
  intro z hz
  have := h z hz
  show Value.int .u8 z = u8v (b8 z)
  rw [u8v_b8, wrap_id (by simp [IntKind.min, IntKind.signed]; omega) (by simp [IntKind.max, IntKind.signed, IntKind.bits]; omega)]
theorem ac_bytes (n : Nat) (k : Int) (bs Z : List Int) (hZ : pack bs = Z) (hn : n = Z.length) : ACalls Tryz.prog 125 [.pointer (some ⟨0, 0, none⟩)] [some ⟨[.slice (some ⟨1, 0, none⟩) n n, .int .i64 k, .int .i64 0], false, 1⟩, some ⟨List.map (Value.int .u8) Z, false, 1⟩] (.tuple #[.string ⟨(Z.map b8).toArray⟩, .int .i64 0]) [none, none] := by
  have hb := bytes_u8 Z (hZ ▸ pkN_rng bs bs.length)
  refine acalls_law Tryz.func125 rfl rfl rfl ?_
  repeat' first | refine st (h := ok_bytes_str (l := Z.map b8) rfl rfl (by simp; omega) ((take_full (by simp; omega)).trans hb)) ?_ | refine st ?_ | refine run_nil ?_ | refine Jz ?_ | refine Jw ?_ | refine Jr ?_ | refine Jy ?_ | refine aw_ret ?_ | refine pp_ret ?_
  all_goals first | rfl
def strBits (s : ByteArray) : Nat → List Int
  | 0 => []
  | i + 1 => strBits s i ++ bitsOf 8 (byteAt s i).toNat
theorem strBits_len (s i) : (strBits s i).length = 8 * i := by induction i with
  | zero => rfl
  | succ i ih => rw [strBits, List.length_append, ih, bitsOf_len]; omega
def txtW (bs : List Int) (e m : Int) (s : ByteArray) : List Int × Int :=
  if e ≠ 0 then (bs, e) else if ¬ (1 ≤ m ∧ m ≤ 4095) then (bs, 1) else if m < s.size ∨ bs.length + wdth m + 8 * s.size > 524288 then (bs, 8) else (bs ++ bitsOf (wdth m).toNat s.size ++ strBits s s.size, 0)
theorem wdth_bd (m : Int) (h : 0 ≤ m ∧ m ≤ 9223372036854775807) : 1 ≤ wdth m ∧ wdth m ≤ 63 := by
  have := bl_bd m.toNat (by omega)
  unfold wdth
  rw [if_neg (by omega)]
  omega
structure Tg where
  i : Nat
  bs : List Int
  Z : List Int
  n : Nat
  k : Int
set_option maxHeartbeats 2000000 in
theorem ac_text (m : Int) (s : ByteArray) (e e' : Int) (bs bs' Z Z' : List Int) (n n' : Nat) (k k' : Int) (hZ : pack bs = Z) (hn : n = Z.length) (hk : k = bs.length) (hst : txtW bs e m s = (bs', e')) (hZ' : pack bs' = Z') (hn' : n' = Z'.length) (hk' : k' = bs'.length) (hl : bs.length ≤ 524288) (hm : -9223372036854775808 ≤ m ∧ m ≤ 9223372036854775807) (hs : s.size ≤ 1000000) :
    ACalls Tryz.prog 123 [.pointer (some ⟨0, 0, none⟩), .int .i64 m, .string s] [some ⟨[.slice (some ⟨1, 0, none⟩) n n, .int .i64 k, .int .i64 e], true, 1⟩, some ⟨List.map (Value.int .u8) Z, true, 1⟩] (.tuple #[]) [some ⟨[.slice (some ⟨2, 0, none⟩) n' n', .int .i64 k', .int .i64 e'], true, 1⟩, none, some ⟨List.map (Value.int .u8) Z', true, 1⟩] := by
  unfold txtW at hst
  have HLm := ac_limit m
  by_cases he : e = 0
  · subst he
    rw [if_neg (by simp)] at hst
    by_cases hr : 1 ≤ m ∧ m ≤ 4095
    · rw [if_neg (by simpa using hr)] at hst
      rw [decide_eq_true hr] at HLm
      have HW := ac_width m hm
      have hwb := wdth_bd m (by omega)
      by_cases hf : m < s.size ∨ bs.length + wdth m + 8 * s.size > 524288
      · rw [if_pos hf] at hst
        obtain ⟨rfl, rfl⟩ := Prod.mk.inj hst
        rw [hZ] at hZ'; subst hZ' hn hn' hk hk'
        refine acalls_of_aw Tryz.func123 rfl rfl ?_
        repeat' first | intro h1 | refine st ?_ | refine st_call (HLm) ?_ | refine stm ?_ | refine run_nil ?_ | refine sd ?_ | refine sdl ?_ | refine sd_call (HW) ?_ | refine Jk ?_ | refine Jl ?_ | refine Jo ?_ ?_ | refine rund_nil ?_ | refine Jz ?_ | refine Jw ?_ | refine J0 (id := 9) [0,1,0,7,15,31,63,127,255,31,543,2047,31,4127,12319,32767,65535,131071,262143] 19 ?_ | refine aw_block ?_ | refine Jq ?_ | refine Jr ?_ | refine Js ?_
        all_goals first | exact pm_normal _ (renumD [0, 1, 1]) rfl
      · rw [if_neg hf] at hst
        obtain ⟨hb, rfl⟩ := Prod.mk.inj hst
        obtain ⟨bs1, hb1⟩ : ∃ bs1, bs ++ bitsOf (wdth m).toNat (s.size : Int) = bs1 := ⟨_, rfl⟩
        obtain ⟨Z1, hZ1⟩ : ∃ Z1, pack bs1 = Z1 := ⟨_, rfl⟩
        have hl1 := congrArg List.length hb1
        rw [List.length_append, bitsOf_len] at hl1
        have HP := ac_put (wdth m).toNat (s.size : Int) 0 bs bs1 Z Z1 n Z1.length k bs1.length (by omega) (by omega) hZ hn hk hb1 hZ1 rfl rfl (by omega)
        rw [show (((wdth m).toNat : Nat) : Int) = wdth m by omega] at HP
        rw [hb1] at hb
        have hl2 := congrArg List.length hb
        rw [List.length_append, strBits_len] at hl2
        refine acalls_of_aw Tryz.func123 rfl rfl ?_
        repeat' first | intro h1 | refine st ?_ | refine st_call (HLm) ?_ | refine st_call (HW) ?_ | refine stMW [0, 1] HP ?_ | refine stm ?_ | refine run_nil ?_ | refine sd ?_ | refine sdl ?_ | refine sd_call (HW) ?_ | refine Jk ?_ | refine Jl ?_ | refine Jo ?_ ?_ | refine rund_nil ?_ | refine Jz ?_ | refine Jw ?_ | refine J0 (id := 9) [0,1,0,7,15,31,63,127,255,31,543,2047,31,4127,12319,32767,65535,131071,262143] 19 ?_ | refine aw_block ?_ | refine Jq ?_ | refine Jr ?_ | refine Jt ?_
        refine aw_loopg
          (S := fun y : Tg => [(0, .pointer (some ⟨0, 0, none⟩)), (2, .string s), (15, .int .i64 s.size), (16, .int .i64 y.i)])
          (B := fun y : Tg => [some ⟨[.slice (some ⟨2, 0, none⟩) y.n y.n, .int .i64 y.k, .int .i64 0], true, 1⟩, none, some ⟨List.map (Value.int .u8) y.Z, true, 1⟩])
          (R := fun y : Tg => y.i ≤ s.size ∧ y.bs = bs1 ++ strBits s y.i ∧ pack y.bs = y.Z ∧ y.n = y.Z.length ∧ y.k = y.bs.length)
          (μ := fun y : Tg => s.size - y.i) ⟨0, bs1, Z1, Z1.length, bs1.length⟩ (fitsD [0, 1, 2]) ⟨Nat.zero_le _, by simp [strBits], hZ1, rfl, rfl⟩ ?_
        clear HP hZ hn hk
        rintro ⟨i, bs2, Z2, n2, k2⟩ ⟨g1, g2, g3, g4, g5⟩
        dsimp only at *
        have hl3 := congrArg List.length g2
        rw [List.length_append, strBits_len] at hl3
        by_cases hi : i < s.size
        · obtain ⟨c, hc⟩ : ∃ c, byteAt s i = c := ⟨_, rfl⟩
          have hcl := c.toNat_lt
          obtain ⟨bs3, hb3⟩ : ∃ bs3, bs2 ++ bitsOf 8 (c.toNat : Int) = bs3 := ⟨_, rfl⟩
          obtain ⟨Z3, hZ3⟩ : ∃ Z3, pack bs3 = Z3 := ⟨_, rfl⟩
          have hl4 := congrArg List.length hb3
          rw [List.length_append, bitsOf_len] at hl4
          have HQ := ac_put 8 (c.toNat : Int) 0 bs2 bs3 Z2 Z3 n2 Z3.length k2 bs3.length (by omega) (by omega) g3 g4 g5 hb3 hZ3 rfl rfl (by omega)
          rw [← hc] at HQ
          repeat' first | refine st (h := ok_conv_u8 rfl (by decide)) ?_ | refine st ?_ | refine stMW [0, 2] HQ ?_ | refine run_nil ?_ | refine Jz ?_ | refine Jw ?_ | refine aw_block ?_ | refine Js ?_ | refine Jy ?_
          refine Exists.intro ⟨i + 1, bs3, Z3, Z3.length, bs3.length⟩ ⟨fitsD [0, 1, 3], ⟨hi, by dsimp only; rw [strBits, ← List.append_assoc, ← g2, hc, hb3], hZ3, rfl, rfl⟩, by dsimp only; omega⟩
        · obtain rfl : i = s.size := by omega
          repeat' first | refine st ?_ | refine run_nil ?_ | refine Jz ?_ | refine Jw ?_ | refine Jt ?_ | refine aw_exit ?_
          have hbb : bs2 = bs' := by rw [g2]; exact hb
          subst hbb
          rw [g3] at hZ'
          subst hZ' g4 hn' g5 hk'
          exact pm_normal _ (renumD [0, 1, 2]) rfl
        exfalso
        omega
    · rw [if_pos (by simpa using hr)] at hst
      rw [decide_eq_false hr] at HLm
      obtain ⟨rfl, rfl⟩ := Prod.mk.inj hst
      rw [hZ] at hZ'; subst hZ' hn hn' hk hk'
      refine acalls_of_aw Tryz.func123 rfl rfl ?_
      repeat' first | refine st ?_ | refine st_call (HLm) ?_ | refine stm ?_ | refine run_nil ?_ | refine Jz ?_ | refine Jw ?_ | refine aw_block ?_ | refine Jq ?_ | refine Jr ?_
      exact pm_normal _ (renumD [0, 1, 1]) rfl
  · rw [if_pos he] at hst
    obtain ⟨rfl, rfl⟩ := Prod.mk.inj hst
    rw [hZ] at hZ'; subst hZ' hn hn' hk hk'
    refine acalls_of_aw Tryz.func123 rfl rfl ?_
    repeat' first | refine st ?_ | refine run_nil ?_ | refine Jz ?_ | refine Jw ?_ | refine aw_block ?_ | refine Js ?_ | refine Jy ?_
    exact pm_normal _ (renumD [0, 1, 1]) rfl
theorem or_bit (k : IntKind) (hk : k = .u64 ∨ k = .i64) {A b : Int} (hA : 0 ≤ A ∧ A ≤ 9223372036854775806) (h2 : A % 2 = 0) (hb : 0 ≤ b ∧ b < 2) : bitv .or k A b = A + b := by
  have h : ((BitVec.ofInt 64 A ||| BitVec.ofInt 64 b).toNat : Int) = A + b := by
    have e1 : (BitVec.ofInt 64 A).toNat = A.toNat := by rw [BitVec.toNat_ofInt]; omega
    have e2 : (BitVec.ofInt 64 b).toNat = b.toNat := by rw [BitVec.toNat_ofInt]; omega
    rw [BitVec.toNat_or, e1, e2]
    obtain ⟨q, hq⟩ : ∃ q, A.toNat = q <<< 1 := ⟨A.toNat / 2, by rw [Nat.shiftLeft_eq]; omega⟩
    rw [hq, ← Nat.shiftLeft_add_eq_or_of_lt (by omega : b.toNat < 2 ^ 1), ← hq]
    omega
  rcases hk with rfl | rfl
  · show IntKind.u64.wrap ((BitVec.ofInt 64 A ||| BitVec.ofInt 64 b).toNat : Int) = _
    rw [h]
    exact wrap_id (by simp [IntKind.min, IntKind.signed]; omega) (by simp [IntKind.max, IntKind.signed, IntKind.bits]; omega)
  · show IntKind.i64.wrap ((BitVec.ofInt 64 A ||| BitVec.ofInt 64 b).toNat : Int) = _
    rw [h]
    exact wrap_id (by simp [IntKind.min, IntKind.signed, IntKind.bits]; omega) (by simp [IntKind.max, IntKind.signed, IntKind.bits]; omega)
/-- A bit of a string. -/
def bitD (d : ByteArray) (i : Nat) : Int := ((byteAt d (i / 8)).toNat : Int) / 2 ^ (7 - i % 8) % 2
/-- The number that w bits from a on are. -/
def rdN (d : ByteArray) (a : Nat) : Nat → Int
  | 0 => 0
  | w + 1 => rdN d a w * 2 + bitD d (a + w)
theorem bitD_bd (d i) : 0 ≤ bitD d i ∧ bitD d i < 2 := by unfold bitD; omega
theorem rdN_bd (d a) : ∀ w, 0 ≤ rdN d a w ∧ rdN d a w < 2 ^ w
  | 0 => by simp [rdN]
  | w + 1 => by
    have h1 := rdN_bd d a w
    have h2 := bitD_bd d (a + w)
    have h3 : (2 : Int) ^ (w + 1) = 2 ^ w * 2 := Int.pow_succ ..
    rw [rdN, h3]
    omega
theorem bv_and1_u8 (x : Int) : bitv .and .u8 x 1 = x % 2 := by
  have h : ((BitVec.ofInt 8 x &&& BitVec.ofInt 8 1).toNat : Int) = x % 2 := by
    rw [BitVec.toNat_and, BitVec.toNat_ofInt, BitVec.toNat_ofInt, show ((1 : Int) % (2 ^ 8 : Nat)).toNat = 1 from rfl, Nat.and_one_is_mod]
    omega
  show IntKind.u8.wrap ((BitVec.ofInt 8 x &&& BitVec.ofInt 8 1).toNat : Int) = _
  rw [h]
  exact wrap_id (by simp [IntKind.min, IntKind.signed]; omega) (by simp [IntKind.max, IntKind.signed, IntKind.bits]; omega)
structure Gg where
  j : Nat
  v : Int
  k : Int
set_option maxHeartbeats 1000000 in
theorem ac_get (w a : Nat) (d : ByteArray) (e : Int) (hw : w ≤ 63) (ha : a + w ≤ 8 * d.size) (hd : d.size ≤ 1000000) : ACalls Tryz.prog 149 [.pointer (some ⟨0, 0, none⟩), .int .i64 w] [some ⟨[.string d, .int .i64 a, .int .i64 e], true, 1⟩] (.int .u64 (rdN d a w)) [some ⟨[.string d, .int .i64 ((a + w : Nat) : Int), .int .i64 e], true, 1⟩] := by
  refine acalls_of_aw Tryz.func149 rfl rfl ?_
  repeat' first | refine st ?_ | refine run_nil ?_ | refine Jz ?_ | refine Jw ?_ | refine aw_block ?_
  refine aw_loopg
    (S := fun y : Gg => [(0, .pointer (some ⟨0, 0, none⟩)), (5, .int .u64 y.v), (6, .int .i64 w), (7, .int .i64 y.j)])
    (B := fun y : Gg => [some ⟨[.string d, .int .i64 y.k, .int .i64 e], true, 1⟩])
    (R := fun y : Gg => y.j ≤ w ∧ y.v = rdN d a y.j ∧ y.k = ((a + y.j : Nat) : Int))
    (μ := fun y : Gg => w - y.j) ⟨0, 0, a⟩ (fitsD [0]) ⟨Nat.zero_le _, rfl, rfl⟩ ?_
  rintro ⟨j, v, k⟩ ⟨g1, g2, g3⟩
  dsimp only at *
  have hb := rdN_bd d a j
  by_cases hj : j < w
  · have hp : (2 : Int) ^ j ≤ 4611686018427387904 := by
      have h1 : (2 : Nat) ^ j ≤ 2 ^ 62 := Nat.pow_le_pow_right (by omega) (by omega)
      have h3 : ((2 ^ j : Nat) : Int) = (2 : Int) ^ j := by push_cast; rfl
      omega
    have e1 : min (7 - k % 8).toNat IntKind.u8.bits = 7 - (a + j) % 8 := by show min (7 - k % 8).toNat 8 = _; omega
    have e2 : (k / 8).toNat = (a + j) / 8 := by omega
    have e3 := bv_and1_u8 (((byteAt d (k / 8).toNat).toNat : Int) / 2 ^ (min (7 - k % 8).toNat IntKind.u8.bits))
    have e4 : IntKind.u64.wrap (v * 2 ^ (min (Int.toNat 1) IntKind.u64.bits)) = v * 2 := by
      rw [show (2 : Int) ^ (min (Int.toNat 1) IntKind.u64.bits) = 2 from by decide]
      exact wrap_id (by simp [IntKind.min, IntKind.signed]; omega) (by simp [IntKind.max, IntKind.signed, IntKind.bits]; omega)
    have e5 := or_bit .u64 (.inl rfl) (A := v * 2) (b := bitD d (a + j)) (by omega) (by omega) (bitD_bd _ _)
    repeat' first | refine st ?_ | refine stm ?_ | refine run_nil ?_ | refine sd ?_ | refine sdl ?_ | refine rund_nil ?_ | refine Jz ?_ | refine Jw ?_ | refine J0 (id := 4) [0,1,0,4,12,28,0,64,192,448,960,2044,0,4096,12288,28672,61440,126976,262140,524284,1048572,2097151,4194303] 23 ?_ | refine aw_block ?_ | refine Js ?_ | refine Jy ?_
    refine Exists.intro ⟨j + 1, _, _⟩ ⟨fitsD [0], ⟨hj, ?_, by dsimp only; omega⟩, by dsimp only; omega⟩
    dsimp only
    rw [rdN, ← g2, ← e5]
    refine Eq.trans (b := bitv .or .u64 (IntKind.u64.wrap (v * 2 ^ (min (Int.toNat 1) IntKind.u64.bits))) (IntKind.u64.wrap (bitv .and .u8 (((byteAt d (k / 8).toNat).toNat : Int) / 2 ^ (min (7 - k % 8).toNat IntKind.u8.bits)) 1))) rfl ?_
    rw [e4, e3, e1, e2, bitD, wrap_id (by simp [IntKind.min, IntKind.signed]; omega) (by simp [IntKind.max, IntKind.signed, IntKind.bits]; omega)]
  · obtain rfl : j = w := by omega
    repeat' first | refine st ?_ | refine run_nil ?_ | refine Jz ?_ | refine Jw ?_ | refine Jt ?_ | refine aw_exit ?_ | refine aw_ret ?_
    subst g2 g3
    exact pm_ret _ (renumD [0]) rfl
theorem ac_rfail (a e c : Int) (d : ByteArray) : ACalls Tryz.prog 175 [.pointer (some ⟨0, 0, none⟩), .int .i64 c] [some ⟨[.string d, .int .i64 a, .int .i64 e], true, 1⟩] (.tuple #[]) [some ⟨[.string d, .int .i64 a, .int .i64 (if e = 0 then c else e)], true, 1⟩] := by
  by_cases he : e = 0
  · subst he
    refine acalls_of_aw Tryz.func175 rfl rfl ?_
    repeat' first | refine st ?_ | refine stm ?_ | refine run_nil ?_ | refine Jz ?_ | refine Jw ?_ | refine Jq ?_
    all_goals first | exact pm_normal _ (renumD [0]) rfl
  · rw [if_neg he]
    refine acalls_of_aw Tryz.func175 rfl rfl ?_
    repeat' first | refine st ?_ | refine run_nil ?_ | refine Jz ?_ | refine Jw ?_ | refine Jt ?_ | refine Jy ?_
    all_goals first | exact pm_normal _ (renumD [0]) rfl
theorem ac_left (a : Int) (d : ByteArray) (ha : 0 ≤ a ∧ a ≤ 8 * d.size) (hd : d.size ≤ 1000000) : ACalls Tryz.prog 150 [.pointer (some ⟨0, 0, none⟩)] [some ⟨[.string d, .int .i64 a, .int .i64 0], false, 1⟩] (.int .i64 (8 * d.size - a)) [none] := by
  refine acalls_law Tryz.func150 rfl rfl rfl ?_
  repeat' first | refine st ?_ | refine run_nil ?_ | refine sd ?_ | refine sdl ?_ | refine rund_nil ?_ | refine Jz ?_ | refine Jw ?_ | refine J0 (id := 3) [0,1,3,7,15,31,0,64,192,448,1023,2047] 12 ?_ | refine Jr ?_ | refine Jy ?_ | refine aw_ret ?_ | refine pp_ret ?_
  all_goals first | rfl
theorem ac_newR (d : ByteArray) (hd : d.size ≤ 65536) : ACalls Tryz.prog 97 [.string d] [] (.pointer (some ⟨0, 0, none⟩)) [some ⟨[.string d, .int .i64 0, .int .i64 0], true, 1⟩] := by
  refine acalls_of_aw Tryz.func97 rfl rfl ?_
  repeat' first | refine st ?_ | refine stm ?_ | refine run_nil ?_ | refine Jz ?_ | refine Jw ?_ | refine Jt ?_ | refine Jy ?_ | refine aw_ret ?_
  all_goals first | exact pm_ret _ (renumD [0]) rfl
/-- What a reader gives for a field; where it is then; its error. -/
def fieldR (d : ByteArray) (a : Nat) (e : Int) (right : Bool) (w : Int) : Int × Nat × Int :=
  if e ≠ 0 then (0, a, e) else if right = false then (0, a, 1) else if (8 * d.size : Int) - a < w then (0, a, 9) else (rdN d a w.toNat, a + w.toNat, 0)
set_option maxHeartbeats 1000000 in
theorem ac_fieldR (right : Bool) (w e e' v : Int) (a a' : Nat) (d : ByteArray) (hst : fieldR d a e right w = (v, a', e')) (ha : a ≤ 8 * d.size) (hd : d.size ≤ 1000000) (hw : right = true → 1 ≤ w ∧ w ≤ 63) :
    ACalls Tryz.prog 174 [.pointer (some ⟨0, 0, none⟩), .bool right, .int .i64 w] [some ⟨[.string d, .int .i64 (a : Int), .int .i64 e], true, 1⟩] (.int .u64 v) [some ⟨[.string d, .int .i64 (a' : Int), .int .i64 e'], true, 1⟩] := by
  unfold fieldR at hst
  by_cases he : e = 0
  · subst he
    rw [if_neg (by simp)] at hst
    cases right
    · rw [if_pos rfl] at hst
      simp only [Prod.mk.injEq] at hst
      obtain ⟨rfl, rfl, rfl⟩ := hst
      have HX := ac_rfail a 0 1 d
      refine acalls_of_aw Tryz.func174 rfl rfl ?_
      repeat' first | refine st ?_ | refine stMW [0] HX ?_ | refine run_nil ?_ | refine Jz ?_ | refine Jw ?_ | refine aw_block ?_ | refine Jq ?_ | refine Jr ?_ | refine aw_ret ?_
      all_goals first | exact pm_ret _ (renumD [0]) rfl
    · rw [if_neg (by simp)] at hst
      have hw := hw rfl
      have HL := ac_left a d (by omega) hd
      by_cases hs : (8 * d.size : Int) - a < w
      · rw [if_pos hs] at hst
        simp only [Prod.mk.injEq] at hst
        obtain ⟨rfl, rfl, rfl⟩ := hst
        have HX := ac_rfail a 0 9 d
        refine acalls_of_aw Tryz.func174 rfl rfl ?_
        repeat' first | refine st ?_ | refine stMW [0] HX ?_ | refine stRW [0] HL ?_ | refine run_nil ?_ | refine Jz ?_ | refine Jw ?_ | refine aw_block ?_ | refine Jr ?_ | refine Js ?_ | refine aw_ret ?_
        all_goals first | exact pm_ret _ (renumD [0]) rfl
      · rw [if_neg hs] at hst
        simp only [Prod.mk.injEq] at hst
        obtain ⟨rfl, rfl, rfl⟩ := hst
        have HX := ac_get w.toNat a d 0 (by omega) (by omega) hd
        rw [show ((w.toNat : Nat) : Int) = w by omega] at HX
        refine acalls_of_aw Tryz.func174 rfl rfl ?_
        repeat' first | refine st ?_ | refine stMW [0] HX ?_ | refine stRW [0] HL ?_ | refine run_nil ?_ | refine Jz ?_ | refine Jw ?_ | refine aw_block ?_ | refine Jr ?_ | refine Jt ?_ | refine aw_ret ?_
        all_goals first | exact pm_ret _ (renumD [0]) rfl
  · rw [if_pos he] at hst
    simp only [Prod.mk.injEq] at hst
    obtain ⟨rfl, rfl, rfl⟩ := hst
    refine acalls_of_aw Tryz.func174 rfl rfl ?_
    repeat' first | refine st ?_ | refine run_nil ?_ | refine Jz ?_ | refine Jw ?_ | refine aw_block ?_ | refine Js ?_ | refine Jy ?_ | refine aw_ret ?_
    all_goals first | exact pm_ret _ (renumD [0]) rfl
def unsR (d : ByteArray) (a : Nat) (e w : Int) : Int × Nat × Int := fieldR d a e (decide (1 ≤ w ∧ w ≤ 63)) w
theorem fieldR_bd {d : ByteArray} {a a' : Nat} {e e' w v : Int} {r : Bool} (h : fieldR d a e r w = (v, a', e')) (hw : r = true → 1 ≤ w ∧ w ≤ 63) : 0 ≤ v ∧ v ≤ 9223372036854775807 := by
  unfold fieldR at h
  split at h
  · simp only [Prod.mk.injEq] at h; omega
  · split at h
    · simp only [Prod.mk.injEq] at h; omega
    · rename_i h2
      have hw := hw (by simpa using h2)
      split at h
      · simp only [Prod.mk.injEq] at h; omega
      · simp only [Prod.mk.injEq] at h
        have hb := rdN_bd d a w.toNat
        have h1 : (2 : Nat) ^ w.toNat ≤ 2 ^ 63 := Nat.pow_le_pow_right (by omega) (by omega)
        have h3 : ((2 ^ w.toNat : Nat) : Int) = (2 : Int) ^ w.toNat := by push_cast; rfl
        omega
theorem ac_unsR (w e e' v : Int) (a a' : Nat) (d : ByteArray) (hst : unsR d a e w = (v, a', e')) (ha : a ≤ 8 * d.size) (hd : d.size ≤ 1000000) (hw : -9223372036854775808 ≤ w ∧ w ≤ 9223372036854775807) :
    ACalls Tryz.prog 133 [.pointer (some ⟨0, 0, none⟩), .int .i64 w] [some ⟨[.string d, .int .i64 (a : Int), .int .i64 e], true, 1⟩] (.int .i64 v) [some ⟨[.string d, .int .i64 (a' : Int), .int .i64 e'], true, 1⟩] := by
  unfold unsR at hst
  by_cases h1 : 1 ≤ w
  · have hst' : fieldR d a e (decide (w ≤ 63)) w = (v, a', e') := by rw [← hst]; congr 1; simp [h1]
    have hv := fieldR_bd hst' (by simp; omega)
    have HX := ac_fieldR (decide (w ≤ 63)) w e e' v a a' d hst' ha hd (by simp; omega)
    refine acalls_of_aw Tryz.func133 rfl rfl ?_
    repeat' first | refine st ?_ | refine stMW [0] HX ?_ | refine Ja ?_ | refine Jd ?_ | refine run_nil ?_ | refine Jz ?_ | refine Jw ?_ | refine aw_ret ?_
    all_goals first | exact pm_ret _ (renumD [0]) rfl
  · have hst' : fieldR d a e false w = (v, a', e') := by rw [← hst]; congr 1; simp [h1]
    have hv := fieldR_bd hst' (by simp)
    have HX := ac_fieldR false w e e' v a a' d hst' ha hd (by simp)
    refine acalls_of_aw Tryz.func133 rfl rfl ?_
    repeat' first | refine st ?_ | refine stMW [0] HX ?_ | refine Jb ?_ | refine Je ?_ | refine run_nil ?_ | refine Jz ?_ | refine Jw ?_ | refine aw_ret ?_
    all_goals first | exact pm_ret _ (renumD [0]) rfl
theorem fieldR_cases {d : ByteArray} {a a' : Nat} {e e' w v : Int} {r : Bool} (h : fieldR d a e r w = (v, a', e')) :
    (e' ≠ 0 ∧ v = 0 ∧ a' = a ∧ (e ≠ 0 → e' = e)) ∨ (e' = 0 ∧ e = 0 ∧ r = true ∧ a' = a + w.toNat ∧ v = rdN d a w.toNat ∧ w ≤ 8 * d.size - a) := by
  unfold fieldR at h
  split at h
  · simp only [Prod.mk.injEq] at h; obtain ⟨rfl, rfl, rfl⟩ := h; rename_i h1; exact .inl ⟨h1, rfl, rfl, fun _ => rfl⟩
  · rename_i h0
    split at h
    · simp only [Prod.mk.injEq] at h; obtain ⟨rfl, rfl, rfl⟩ := h; exact .inl ⟨by decide, rfl, rfl, fun h => absurd h h0⟩
    · split at h
      · simp only [Prod.mk.injEq] at h; obtain ⟨rfl, rfl, rfl⟩ := h; exact .inl ⟨by decide, rfl, rfl, fun h => absurd h h0⟩
      · simp only [Prod.mk.injEq] at h; obtain ⟨rfl, rfl, rfl⟩ := h
        rename_i h2 h3
        exact .inr ⟨rfl, by omega, by simpa using h2, rfl, rfl, by omega⟩
def flgR (d : ByteArray) (a : Nat) (e : Int) : Bool × Nat × Int := (decide ((fieldR d a e true 1).1 = 1), (fieldR d a e true 1).2)
theorem ac_flgR (e e' : Int) (v : Bool) (a a' : Nat) (d : ByteArray) (hst : flgR d a e = (v, a', e')) (ha : a ≤ 8 * d.size) (hd : d.size ≤ 1000000) :
    ACalls Tryz.prog 131 [.pointer (some ⟨0, 0, none⟩)] [some ⟨[.string d, .int .i64 (a : Int), .int .i64 e], true, 1⟩] (.bool v) [some ⟨[.string d, .int .i64 (a' : Int), .int .i64 e'], true, 1⟩] := by
  unfold flgR at hst
  obtain ⟨v1, a1, e1, hf⟩ : ∃ v a1 e1, fieldR d a e true 1 = (v, a1, e1) := ⟨_, _, _, rfl⟩
  rw [hf] at hst
  simp only [Prod.mk.injEq] at hst
  obtain ⟨rfl, rfl, rfl⟩ := hst
  have HX := ac_fieldR true 1 e e1 v1 a a1 d hf ha hd (by simp)
  refine acalls_of_aw Tryz.func131 rfl rfl ?_
  repeat' first | refine st ?_ | refine stMW [0] HX ?_ | refine run_nil ?_ | refine Jz ?_ | refine Jw ?_ | refine aw_ret ?_
  all_goals first | exact pm_ret _ (renumD [0]) rfl
/-- The bytes that stand from a bit on. -/
def rdB (d : ByteArray) (a : Nat) : Nat → List Int
  | 0 => []
  | n + 1 => rdB d a n ++ [rdN d (a + 8 * n) 8]
theorem rdB_len (d a) : ∀ n, (rdB d a n).length = n
  | 0 => rfl
  | n + 1 => by rw [rdB, List.length_append, rdB_len d a n]; rfl
theorem rdB_rng (d a) : ∀ n, ∀ z ∈ rdB d a n, 0 ≤ z ∧ z ≤ 255
  | 0, z, h => by cases h
  | n + 1, z, h => by
    rw [rdB, List.mem_append] at h
    rcases h with h | h
    · exact rdB_rng d a n z h
    · rw [List.mem_singleton] at h
      have := rdN_bd d (a + 8 * n) 8
      omega
/-- What a reader gives for a text; where it is then; its error. -/
def txtR (d : ByteArray) (a : Nat) (e m : Int) : ByteArray × Nat × Int :=
  if (fieldR d a e (decide (1 ≤ m ∧ m ≤ 4095)) (wdth m)).2.2 ≠ 0 then (⟨#[]⟩, (fieldR d a e (decide (1 ≤ m ∧ m ≤ 4095)) (wdth m)).2)
  else if m < (fieldR d a e (decide (1 ≤ m ∧ m ≤ 4095)) (wdth m)).1 then (⟨#[]⟩, (fieldR d a e (decide (1 ≤ m ∧ m ≤ 4095)) (wdth m)).2.1, 2)
  else if (8 * d.size : Int) - (fieldR d a e (decide (1 ≤ m ∧ m ≤ 4095)) (wdth m)).2.1 < 8 * (fieldR d a e (decide (1 ≤ m ∧ m ≤ 4095)) (wdth m)).1 then (⟨#[]⟩, (fieldR d a e (decide (1 ≤ m ∧ m ≤ 4095)) (wdth m)).2.1, 9)
  else (⟨((rdB d (fieldR d a e (decide (1 ≤ m ∧ m ≤ 4095)) (wdth m)).2.1 (fieldR d a e (decide (1 ≤ m ∧ m ≤ 4095)) (wdth m)).1.toNat).map b8).toArray⟩, (fieldR d a e (decide (1 ≤ m ∧ m ≤ 4095)) (wdth m)).2.1 + 8 * (fieldR d a e (decide (1 ≤ m ∧ m ≤ 4095)) (wdth m)).1.toNat, 0)
structure Xg where
  i : Nat
  Z : List Int
set_option maxHeartbeats 2000000 in
theorem ac_txtR (m e e' : Int) (t : ByteArray) (a a' : Nat) (d : ByteArray) (hst : txtR d a e m = (t, a', e')) (ha : a ≤ 8 * d.size) (hd : d.size ≤ 1000000) (hm : -9223372036854775808 ≤ m ∧ m ≤ 9223372036854775807) :
    ACalls Tryz.prog 132 [.pointer (some ⟨0, 0, none⟩), .int .i64 m] [some ⟨[.string d, .int .i64 (a : Int), .int .i64 e], true, 1⟩] (.string t) [some ⟨[.string d, .int .i64 (a' : Int), .int .i64 e'], true, 1⟩] := by
  unfold txtR at hst
  have HW := ac_width m hm
  obtain ⟨v, a1, e1, hf⟩ : ∃ v a1 e1, fieldR d a e (decide (1 ≤ m ∧ m ≤ 4095)) (wdth m) = (v, a1, e1) := ⟨_, _, _, rfl⟩
  rw [hf] at hst
  dsimp only at hst
  have hwd : 1 ≤ m → 1 ≤ wdth m ∧ wdth m ≤ 63 := fun h => wdth_bd m (by omega)
  have hv := fieldR_bd hf (by simp; omega)
  have HF := ac_fieldR _ _ e e1 v a a1 d hf ha hd (by simp; omega)
  have hcs := fieldR_cases hf
  by_cases he1 : e1 = 0
  · rw [if_neg (by simpa using he1)] at hst
    obtain ⟨c1, c2, c3, c4, c5, c6⟩ : e1 = 0 ∧ e = 0 ∧ decide (1 ≤ m ∧ m ≤ 4095) = true ∧ a1 = a + (wdth m).toNat ∧ v = rdN d a (wdth m).toNat ∧ wdth m ≤ 8 * d.size - a := by
      rcases hcs with h | h
      · exact absurd he1 h.1
      · exact h
    have c3 := of_decide_eq_true c3
    have hwd := hwd c3.1
    subst e1
    have HL := ac_left a1 d (by omega) hd
    by_cases h2 : m < v
    · rw [if_pos h2] at hst
      simp only [Prod.mk.injEq] at hst
      obtain ⟨rfl, rfl, rfl⟩ := hst
      have HX := ac_rfail a1 0 2 d
      refine acalls_of_aw Tryz.func132 rfl rfl ?_
      repeat' first | refine st ?_ | refine st_call (ac_limit m) ?_ | refine st_call (HW) ?_ | refine stMW [0] HF ?_ | refine stMW [0] HX ?_ | refine run_nil ?_ | refine Jz ?_ | refine Jw ?_ | refine aw_block ?_ | refine Jr ?_ | refine Js ?_ | refine aw_ret ?_
      all_goals first | exact pm_ret _ (renumD [0]) rfl
    · rw [if_neg h2] at hst
      by_cases h3 : (8 * d.size : Int) - a1 < 8 * v
      · rw [if_pos h3] at hst
        simp only [Prod.mk.injEq] at hst
        obtain ⟨rfl, rfl, rfl⟩ := hst
        have HX := ac_rfail a1 0 9 d
        refine acalls_of_aw Tryz.func132 rfl rfl ?_
        repeat' first | refine st ?_ | refine st_call (ac_limit m) ?_ | refine st_call (HW) ?_ | refine stMW [0] HF ?_ | refine stRW [0] HL ?_ | refine stMW [0] HX ?_ | refine run_nil ?_ | refine Jz ?_ | refine Jw ?_ | refine aw_block ?_ | refine Jr ?_ | refine Js ?_ | refine Jt ?_ | refine aw_ret ?_
        all_goals first | exact pm_ret _ (renumD [0]) rfl
      · rw [if_neg h3] at hst
        simp only [Prod.mk.injEq] at hst
        obtain ⟨ht, ha', rfl⟩ := hst
        obtain ⟨N, hN⟩ : ∃ N, v.toNat = N := ⟨_, rfl⟩
        rw [hN] at ht ha'
        clear c5 hf hcs
        refine acalls_of_aw Tryz.func132 rfl rfl ?_
        repeat' first | refine st ?_ | refine st_call (ac_limit m) ?_ | refine st_call (HW) ?_ | refine stMW [0] HF ?_ | refine stRW [0] HL ?_ | refine st (h := ok_makeFunc (by ((repeat (apply ArgsR.cons; rfl)); exact ArgsR.nil)) (by ((repeat (apply ArgsR.cons; rfl)); exact ArgsR.nil))) ?_ | refine stm ?_ | refine run_nil ?_ | refine Jz ?_ | refine Jw ?_ | refine aw_block ?_ | refine Jr ?_ | refine Jt ?_ | refine Jy ?_
        rw [hN]
        refine aw_loopg
          (S := fun y : Xg => [(6, .func (.func 149) #[.pointer (some ⟨0, 0, none⟩)] #[]), (7, .slice (some ⟨1, 0, none⟩) N N), (41, .int .i64 N), (42, .int .i64 y.i)])
          (B := fun y : Xg => [some ⟨[.string d, .int .i64 ((a1 + 8 * y.i : Nat) : Int), .int .i64 0], true, 1⟩, some ⟨List.map (Value.int .u8) y.Z, true, 1⟩])
          (R := fun y : Xg => y.i ≤ N ∧ y.Z = rdB d a1 y.i ++ List.replicate (N - y.i) 0)
          (μ := fun y : Xg => N - y.i) ⟨0, List.replicate N 0⟩ (fitsD [0, 1] (h4 := .blk rfl (WkL.refl _) rfl (.blk rfl (.ofEq (by refine Eq.trans ?_ (renL_map (fun _ => rfl) _).symm; rw [List.map_replicate])) rfl .nil))) ⟨Nat.zero_le _, rfl⟩ ?_
        rintro ⟨i, Z⟩ ⟨g1, g2⟩
        dsimp only at *
        have hZl : Z.length = N := by rw [g2, List.length_append, rdB_len, List.length_replicate]; omega
        by_cases hi : i < N
        · have HG := ac_get 8 (a1 + 8 * i) d 0 (by omega) (by omega) hd
          have hb := rdN_bd d (a1 + 8 * i) 8
          generalize hc : rdN d (a1 + 8 * i) 8 = c at HG hb
          repeat' first | refine st (h := ok_conv_in rfl (show IntKind.u8.min ≤ c by simp [IntKind.min, IntKind.signed]; omega) (show c ≤ IntKind.u8.max by simp [IntKind.max, IntKind.signed, IntKind.bits]; omega)) ?_ | refine st ?_ | refine stMW [0] HG ?_ | refine stm ?_ | refine run_nil ?_ | refine Jz ?_ | refine Jw ?_ | refine aw_block ?_ | refine Js ?_ | refine Jy ?_
          refine Exists.intro ⟨i + 1, Z.set i c⟩ ⟨fitsD [0, 1], ⟨hi, ?_⟩, by dsimp only; omega⟩
          dsimp only
          rw [g2, rdB, hc, List.set_append_right _ _ (by rw [rdB_len]; exact Nat.le_refl _), rdB_len, Nat.sub_self, show N - i = (N - (i + 1)) + 1 by omega, List.replicate_succ, List.append_assoc]
          rfl
        · obtain rfl : i = N := by omega
          have hZ : Z = rdB d a1 i := by rw [g2, Nat.sub_self]; simp
          have hbu := bytes_u8 Z (hZ ▸ rdB_rng d a1 i)
          subst t a'
          rw [← hZ]
          repeat' first | refine st (h := ok_bytes_str (l := Z.map b8) rfl rfl (by simp; omega) ((take_full (by simp; omega)).trans hbu)) ?_ | refine st ?_ | refine run_nil ?_ | refine Jz ?_ | refine Jw ?_ | refine Jt ?_ | refine aw_exit ?_ | refine aw_ret ?_
          exact pm_ret _ (renumD [0]) rfl
  · rw [if_pos he1] at hst
    simp only [Prod.mk.injEq] at hst
    obtain ⟨rfl, rfl, rfl⟩ := hst
    refine acalls_of_aw Tryz.func132 rfl rfl ?_
    repeat' first | refine st ?_ | refine st_call (ac_limit m) ?_ | refine st_call (HW) ?_ | refine stMW [0] HF ?_ | refine run_nil ?_ | refine Jz ?_ | refine Jw ?_ | refine aw_block ?_ | refine Js ?_ | refine aw_ret ?_
    all_goals first | exact pm_ret _ (renumD [0]) rfl
/-- What a reader's Close returns. -/
def closeR (d : ByteArray) (a : Nat) (e : Int) : Int := if e ≠ 0 then e else if 8 ≤ 8 * d.size - a ∨ rdN d a (8 * d.size - a) ≠ 0 then 10 else 0
theorem ac_close1 (a : Nat) (d : ByteArray) (ha : a ≤ 8 * d.size) (hlt : 8 * d.size - a < 8) (hd : d.size ≤ 1000000) : ACalls Tryz.prog 148 [.pointer (some ⟨0, 0, none⟩)] [some ⟨[.pointer (some ⟨1, 0, none⟩)], false, 1⟩, some ⟨[.string d, .int .i64 (a : Int), .int .i64 0], false, 1⟩] (.bool (decide (¬ rdN d a (8 * d.size - a) = 0))) [none, none] := by
  have HL := ac_left a d (by omega) hd
  have HG := ac_get (8 * d.size - a) a d 0 (by omega) (by omega) hd
  rw [show ((8 * d.size - a : Nat) : Int) = 8 * (d.size : Int) - a by omega] at HG
  refine acalls_law Tryz.func148 rfl rfl rfl ?_
  repeat' first | refine st ?_ | refine stRW [1] HL ?_ | refine stMW [2] HG ?_ | refine stm ?_ | refine run_nil ?_ | refine Jz ?_ | refine Jw ?_ | refine aw_ret ?_ | refine pp_ret ?_
  all_goals first | rfl
theorem ac_closeR (e c : Int) (a : Nat) (d : ByteArray) (hst : closeR d a e = c) (ha : a ≤ 8 * d.size) (hd : d.size ≤ 1000000) : ACalls Tryz.prog 99 [.pointer (some ⟨0, 0, none⟩)] [some ⟨[.string d, .int .i64 (a : Int), .int .i64 e], false, 1⟩] (.int .i64 c) [none] := by
  unfold closeR at hst
  by_cases he : e = 0
  · subst he
    rw [if_neg (by simp)] at hst
    have HL := ac_left a d (by omega) hd
    by_cases h8 : 8 ≤ 8 * d.size - a
    · rw [if_pos (.inl h8)] at hst
      subst hst
      refine acalls_law Tryz.func99 rfl rfl rfl ?_
      repeat' first | refine st ?_ | refine stRW [0] HL ?_ | refine st (h := ok_makeFunc (by ((repeat (apply ArgsR.cons; rfl)); exact ArgsR.nil)) (by ((repeat (apply ArgsR.cons; rfl)); exact ArgsR.nil))) ?_ | refine stm ?_ | refine Jb ?_ | refine Jg ?_ | refine run_nil ?_ | refine Jz ?_ | refine Jw ?_ | refine Jq ?_ | refine Jr ?_ | refine Jy ?_ | refine aw_ret ?_ | refine pp_ret ?_
      all_goals first | rfl
    · have HO := ac_close1 a d ha (by omega) hd
      by_cases hr : rdN d a (8 * d.size - a) = 0
      · rw [if_neg (by rintro (h | h); exact h8 h; exact h hr)] at hst
        subst hst
        rw [hr, show decide (¬ (0 : Int) = 0) = false from rfl] at HO
        refine acalls_law Tryz.func99 rfl rfl rfl ?_
        repeat' first | refine st ?_ | refine stRW [0] HL ?_ | refine stRW [1, 0] HO ?_ | refine st (h := ok_makeFunc (by ((repeat (apply ArgsR.cons; rfl)); exact ArgsR.nil)) (by ((repeat (apply ArgsR.cons; rfl)); exact ArgsR.nil))) ?_ | refine stm ?_ | refine Ja ?_ | refine Jf ?_ | refine run_nil ?_ | refine Jz ?_ | refine Jw ?_ | refine Jr ?_ | refine Jy ?_ | refine aw_ret ?_ | refine pp_ret ?_
        all_goals first | rfl
      · rw [if_pos (.inr hr)] at hst
        subst hst
        rw [decide_eq_true hr] at HO
        refine acalls_law Tryz.func99 rfl rfl rfl ?_
        repeat' first | refine st ?_ | refine stRW [0] HL ?_ | refine stRW [1, 0] HO ?_ | refine st (h := ok_makeFunc (by ((repeat (apply ArgsR.cons; rfl)); exact ArgsR.nil)) (by ((repeat (apply ArgsR.cons; rfl)); exact ArgsR.nil))) ?_ | refine stm ?_ | refine Ja ?_ | refine Jf ?_ | refine run_nil ?_ | refine Jz ?_ | refine Jw ?_ | refine Jq ?_ | refine Jr ?_ | refine Jy ?_ | refine aw_ret ?_ | refine pp_ret ?_
        all_goals first | rfl
  · rw [if_pos he] at hst
    subst hst
    refine acalls_law Tryz.func99 rfl rfl rfl ?_
    repeat' first | refine st ?_ | refine stm ?_ | refine run_nil ?_ | refine Jz ?_ | refine Jw ?_ | refine Js ?_ | refine aw_ret ?_ | refine pp_ret ?_
    all_goals first | rfl
theorem orB : ∀ (Y : Fin 256) (s : Fin 8) (b : Fin 2) (t : Fin 8), bitv .or .u8 (Y.val : Int) (IntKind.u8.wrap ((b.val : Int) * 2 ^ s.val)) / 2 ^ t.val % 2 = if t = s ∧ b = 1 then 1 else (Y.val : Int) / 2 ^ t.val % 2 := by decide +kernel
theorem orB' (Y b : Int) (s t : Nat) (hY : 0 ≤ Y ∧ Y ≤ 255) (hb : b = 0 ∨ b = 1) (hs : s < 8) (ht : t < 8) : bitv .or .u8 Y (IntKind.u8.wrap (b * 2 ^ s)) / 2 ^ t % 2 = if t = s ∧ b = 1 then 1 else Y / 2 ^ t % 2 := by
  have := orB ⟨Y.toNat, by omega⟩ ⟨s, hs⟩ ⟨b.toNat, by omega⟩ ⟨t, ht⟩
  simp only [Int.toNat_of_nonneg hY.1, Int.toNat_of_nonneg (show 0 ≤ b by omega)] at this
  rw [this]
  have e1 : (Fin.mk t ht = Fin.mk s hs) ↔ t = s := by simp [Fin.ext_iff]
  have e2 : (Fin.mk b.toNat (by omega : b.toNat < 2) = 1) ↔ b = 1 := by rcases hb with rfl | rfl <;> simp
  simp only [e1, e2]
theorem getD_set_self {l : List Int} {i : Nat} {x : Int} (h : i < l.length) : (l.set i x).getD i 0 = x := by
  rw [List.getD_eq_getElem?_getD, List.getElem?_set, if_pos rfl, if_pos h]; rfl
theorem getD_set_ne {l : List Int} {i j : Nat} {x : Int} (h : i ≠ j) : (l.set i x).getD j 0 = l.getD j 0 := by
  rw [List.getD_eq_getElem?_getD, List.getElem?_set, if_neg h, List.getD_eq_getElem?_getD]
theorem getD_rng {l : List Int} (h : ∀ z ∈ l, 0 ≤ z ∧ z ≤ 255) (i : Nat) : 0 ≤ l.getD i 0 ∧ l.getD i 0 ≤ 255 := by
  rw [List.getD_eq_getElem?_getD]
  cases hi : l[i]? with
  | none => simp
  | some z => exact h z (List.mem_of_getElem? hi)
theorem getD_app_zero (l : List Int) (i : Nat) : (l ++ [0]).getD i 0 = l.getD i 0 := by
  rw [List.getD_eq_getElem?_getD, List.getD_eq_getElem?_getD]
  rcases Nat.lt_or_ge i l.length with h | h
  · rw [List.getElem?_append_left h]
  · rw [List.getElem?_append_right h, List.getElem?_eq_none h]
    cases hk : i - l.length with
    | zero => rfl
    | succ k => rfl
/-- The bits of the packed bytes. -/
theorem pk_bits (bs : List Int) (hb : ∀ b ∈ bs, b = 0 ∨ b = 1) : ∀ k, k ≤ bs.length → ∀ j, (pkN bs k).getD (j / 8) 0 / 2 ^ (7 - j % 8) % 2 = if j < k then bs.getD j 0 else 0
  | 0, _, j => by simp [pkN]
  | k + 1, hk, j => by
    have ih := pk_bits bs hb k (by omega)
    have hr := pkN_rng bs k
    have hl := pkN_len bs k
    rw [pkN, pkS]
    obtain ⟨Y, hY⟩ : ∃ Y, (if k % 8 = 0 then pkN bs k ++ [0] else pkN bs k) = Y := ⟨_, rfl⟩
    have hg : ∀ i, Y.getD i 0 = (pkN bs k).getD i 0 := fun i => by
      rw [← hY]
      split
      · exact getD_app_zero _ _
      · rfl
    have hYl : k / 8 < Y.length := by
      rw [← hY]
      split
      · rw [List.length_append, hl]; simp; omega
      · rw [hl]; omega
    have hbk : bs.getD k 0 = 0 ∨ bs.getD k 0 = 1 := by
      rw [List.getD_eq_getElem?_getD, List.getElem?_eq_getElem (by omega)]
      exact hb _ (List.getElem_mem _)
    simp only [hY]
    by_cases hq : j / 8 = k / 8
    · rw [hq, getD_set_self hYl, hg, orB' _ _ _ _ (getD_rng hr _) hbk (by omega) (by omega)]
      have ihj := ih j
      rw [hq] at ihj
      rw [ihj]
      by_cases hjk : j = k
      · subst hjk
        have n1 : ¬ j < j := by omega
        have n2 : j < j + 1 := by omega
        rw [if_neg n1, if_pos n2]
        rcases hbk with h | h
        · rw [if_neg (by rw [h]; simp), h]
        · rw [if_pos ⟨rfl, h⟩, h]
      · rw [if_neg (by omega)]
        by_cases hlt : j < k
        · rw [if_pos hlt, if_pos (by omega)]
        · rw [if_neg hlt, if_neg (by omega)]
    · rw [getD_set_ne (fun h => hq h.symm), hg, ih j]
      by_cases hlt : j < k
      · rw [if_pos hlt, if_pos (by omega)]
      · rw [if_neg hlt, if_neg (by omega)]
/-- A string of packed bits. -/
def pkB (bs : List Int) : ByteArray := ⟨((pack bs).map b8).toArray⟩
theorem pkB_size (bs : List Int) : (pkB bs).size = (bs.length + 7) / 8 := by
  show ((pack bs).map b8).toArray.size = _
  simp [pack_len]
theorem b8_toNat {z : Int} (h : 0 ≤ z ∧ z ≤ 255) : ((b8 z).toNat : Int) = z := by
  have := u8v_b8 z
  unfold u8v at this
  injection this with _ h2
  rw [h2]
  exact wrap_id (by simp [IntKind.min, IntKind.signed]; omega) (by simp [IntKind.max, IntKind.signed, IntKind.bits]; omega)
theorem byteAt_map (Z : List Int) (h : ∀ z ∈ Z, 0 ≤ z ∧ z ≤ 255) (i : Nat) : ((byteAt ⟨(Z.map b8).toArray⟩ i).toNat : Int) = Z.getD i 0 := by
  have e : byteAt ⟨(Z.map b8).toArray⟩ i = (Z.map b8).getD i 0 := rfl
  rw [e, List.getD_eq_getElem?_getD, List.getD_eq_getElem?_getD, List.getElem?_map]
  cases hi : Z[i]? with
  | none => rfl
  | some z => exact b8_toNat (h z (List.mem_of_getElem? hi))
theorem pkB_bit (bs : List Int) (hb : ∀ b ∈ bs, b = 0 ∨ b = 1) (j : Nat) : bitD (pkB bs) j = if j < bs.length then bs.getD j 0 else 0 := by
  unfold bitD pkB
  rw [byteAt_map (pack bs) (show ∀ z ∈ pack bs, 0 ≤ z ∧ z ≤ 255 from pkN_rng bs bs.length)]
  exact pk_bits bs hb bs.length (Nat.le_refl _) j
theorem mod_bit (x : Int) (w t : Nat) (h : t < w) : x % 2 ^ w / 2 ^ t % 2 = x / 2 ^ t % 2 := by
  have h1 : x = x % 2 ^ w + 2 ^ t * (2 ^ (w - t) * (x / 2 ^ w)) := by
    have e := Int.mul_ediv_add_emod x (2 ^ w)
    rw [← Int.mul_assoc, ← Int.pow_add, show t + (w - t) = w by omega]
    omega
  have hp : (2 : Int) ^ t ≠ 0 := Int.ne_of_gt (Int.pow_pos (by decide))
  have h2 : x / 2 ^ t = x % 2 ^ w / 2 ^ t + 2 ^ (w - t) * (x / 2 ^ w) := by
    conv => lhs; rw [h1]
    rw [Int.add_mul_ediv_left _ _ hp]
  rw [h2, show (2 : Int) ^ (w - t) = 2 * 2 ^ (w - t - 1) from by rw [← Int.pow_succ']; congr 1; omega, Int.mul_assoc]
  omega
theorem bitsOf_get : ∀ (w : Nat) (x : Int) (j : Nat), j < w → (bitsOf w x).getD j 0 = x / 2 ^ (w - 1 - j) % 2
  | 0, _, _, h => by omega
  | w + 1, x, 0, _ => rfl
  | w + 1, x, j + 1, h => by
    rw [bitsOf, List.getD_cons_succ, bitsOf_get w x j (by omega)]
    congr 3
    omega
theorem bitsOf_01 : ∀ (w : Nat) (x : Int), ∀ b ∈ bitsOf w x, b = 0 ∨ b = 1
  | 0, _, b, h => by cases h
  | w + 1, x, b, h => by
    rw [bitsOf, List.mem_cons] at h
    rcases h with rfl | h
    · omega
    · exact bitsOf_01 w x b h
theorem rdN_of (d : ByteArray) (a w : Nat) (x : Int) (h : ∀ j, j < w → bitD d (a + j) = x / 2 ^ (w - 1 - j) % 2) : ∀ k, k ≤ w → rdN d a k = x % 2 ^ w / 2 ^ (w - k)
  | 0, _ => by
    have hp : (0 : Int) < 2 ^ w := Int.pow_pos (by decide)
    rw [rdN, Nat.sub_zero, Int.ediv_eq_zero_of_lt (Int.emod_nonneg _ (Int.ne_of_gt hp)) (Int.emod_lt_of_pos _ hp)]
  | k + 1, hk => by
    rw [rdN, rdN_of d a w x h k (by omega), h k (by omega), ← mod_bit x w (w - 1 - k) (by omega)]
    have e : x % 2 ^ w / 2 ^ (w - k) = x % 2 ^ w / 2 ^ (w - 1 - k) / 2 := by
      rw [Int.ediv_ediv_of_nonneg (by have : (0 : Int) < 2 ^ (w - 1 - k) := Int.pow_pos (by decide); omega), ← Int.pow_succ]
      congr 2; omega
    rw [e, show w - (k + 1) = w - 1 - k by omega]
    omega
/-- A number is read whose bits stand there. -/
theorem rdN_bits (bs : List Int) (hb : ∀ b ∈ bs, b = 0 ∨ b = 1) (xs ys : List Int) (w : Nat) (x : Int) (h : bs = xs ++ bitsOf w x ++ ys) : rdN (pkB bs) xs.length w = x % 2 ^ w := by
  have := rdN_of (pkB bs) xs.length w x (fun j hj => by
    rw [pkB_bit bs hb, if_pos (by rw [h]; simp [bitsOf_len]; omega), ← bitsOf_get w x j hj, h, List.getD_eq_getElem?_getD, List.getD_eq_getElem?_getD, List.append_assoc, List.getElem?_append_right (by omega), Nat.add_sub_cancel_left, List.getElem?_append_left (by rw [bitsOf_len]; exact hj)]) w (Nat.le_refl _)
  rw [this, Nat.sub_self]
  simp
/-- The bits of what was read are those that stand there. -/
theorem rdN_get (d : ByteArray) (a : Nat) : ∀ (w j : Nat), j < w → rdN d a w / 2 ^ (w - 1 - j) % 2 = bitD d (a + j)
  | 0, _, h => by omega
  | w + 1, j, h => by
    have hb := bitD_bd d (a + w)
    rw [rdN]
    rcases Nat.lt_or_ge j w with hj | hj
    · rw [← rdN_get d a w j hj, show w + 1 - 1 - j = (w - 1 - j) + 1 by omega, Int.pow_succ', ← Int.ediv_ediv_of_nonneg (by decide)]
      congr 2
      omega
    · obtain rfl : j = w := by omega
      rw [show j + 1 - 1 - j = 0 by omega]
      simp
      omega
def dbits (d : ByteArray) (a n : Nat) : List Int := (List.range n).map fun j => bitD d (a + j)
theorem dbits_len (d a n) : (dbits d a n).length = n := by simp [dbits]
/-- What a writer does with a number that fits. -/
theorem unsW_ok {bs bs' : List Int} {w x : Int} (h : 1 ≤ w ∧ w ≤ 63) (hx : 0 ≤ x ∧ x < 2 ^ w.toNat) (hl : bs.length + w ≤ 524288) (hb : bs ++ bitsOf w.toNat x = bs') : unsW bs 0 w x = (bs', 0) := by
  unfold unsW fieldW
  rw [if_neg (by simp), if_neg (by simp [h]), if_neg (by simp [hx]), if_neg (by omega), hb]
theorem bd63 {w x : Int} (h : 1 ≤ w ∧ w ≤ 63) (hx : 0 ≤ x ∧ x < 2 ^ w.toNat) : -9223372036854775808 ≤ x ∧ x ≤ 9223372036854775807 := by
  have : (2 : Int) ^ w.toNat ≤ 2 ^ 63 := by
    have := Nat.pow_le_pow_right (show 0 < 2 by decide) (show w.toNat ≤ 63 by omega)
    exact_mod_cast this
  have e : (2 : Int) ^ 63 = 9223372036854775808 := by decide
  omega
theorem ac_uns0 (w x : Int) (bs bs' : List Int) (h : 1 ≤ w ∧ w ≤ 63) (hx : 0 ≤ x ∧ x < 2 ^ w.toNat) (hl : bs.length + w ≤ 524288) (hb : bs ++ bitsOf w.toNat x = bs') : ACalls Tryz.prog 124 [.pointer (some ⟨0, 0, none⟩), .int .i64 w, .int .i64 x] [some ⟨[.slice (some ⟨1, 0, none⟩) (pack bs).length (pack bs).length, .int .i64 (bs.length : Int), .int .i64 0], true, 1⟩, some ⟨List.map (Value.int .u8) (pack bs), true, 1⟩] (.tuple #[]) [some ⟨[.slice (some ⟨2, 0, none⟩) (pack bs').length (pack bs').length, .int .i64 (bs'.length : Int), .int .i64 0], true, 1⟩, none, some ⟨List.map (Value.int .u8) (pack bs'), true, 1⟩] :=
  ac_unsigned w x 0 0 bs bs' _ _ _ _ _ _ rfl rfl rfl (unsW_ok h hx hl hb) rfl rfl rfl (by omega) (by omega) (bd63 h hx)
theorem flgW_ok {bs bs' : List Int} {r : Bool} (hl : bs.length + 1 ≤ 524288) (hb : bs ++ bitsOf 1 (if r = true then 1 else 0) = bs') : flgW bs 0 r = (bs', 0) := by
  unfold flgW fieldW
  rw [if_neg (by simp), if_neg (by simp), if_neg (by simp), if_neg (by omega)]
  exact congrArg (·, 0) hb
theorem ac_flag0 (r : Bool) (bs bs' : List Int) (hl : bs.length + 1 ≤ 524288) (hb : bs ++ bitsOf 1 (if r = true then 1 else 0) = bs') : ACalls Tryz.prog 122 [.pointer (some ⟨0, 0, none⟩), .bool r] [some ⟨[.slice (some ⟨1, 0, none⟩) (pack bs).length (pack bs).length, .int .i64 (bs.length : Int), .int .i64 0], true, 1⟩, some ⟨List.map (Value.int .u8) (pack bs), true, 1⟩] (.tuple #[]) [some ⟨[.slice (some ⟨2, 0, none⟩) (pack bs').length (pack bs').length, .int .i64 (bs'.length : Int), .int .i64 0], true, 1⟩, none, some ⟨List.map (Value.int .u8) (pack bs'), true, 1⟩] :=
  ac_flag r 0 0 bs bs' _ _ _ _ _ _ rfl rfl rfl (flgW_ok hl hb) rfl rfl rfl (by omega)
theorem txtW_ok {bs bs' : List Int} {m : Int} {s : ByteArray} (hm : 1 ≤ m ∧ m ≤ 4095) (hs : (s.size : Int) ≤ m) (hl : bs.length + wdth m + 8 * s.size ≤ 524288) (hb : bs ++ bitsOf (wdth m).toNat s.size ++ strBits s s.size = bs') : txtW bs 0 m s = (bs', 0) := by
  unfold txtW
  rw [if_neg (by simp), if_neg (by simp [hm]), if_neg (by omega), hb]
theorem ac_text0 (m : Int) (s : ByteArray) (bs bs' : List Int) (hm : 1 ≤ m ∧ m ≤ 4095) (hs : (s.size : Int) ≤ m) (hl : bs.length + wdth m + 8 * s.size ≤ 524288) (hb : bs ++ bitsOf (wdth m).toNat s.size ++ strBits s s.size = bs') : ACalls Tryz.prog 123 [.pointer (some ⟨0, 0, none⟩), .int .i64 m, .string s] [some ⟨[.slice (some ⟨1, 0, none⟩) (pack bs).length (pack bs).length, .int .i64 (bs.length : Int), .int .i64 0], true, 1⟩, some ⟨List.map (Value.int .u8) (pack bs), true, 1⟩] (.tuple #[]) [some ⟨[.slice (some ⟨2, 0, none⟩) (pack bs').length (pack bs').length, .int .i64 (bs'.length : Int), .int .i64 0], true, 1⟩, none, some ⟨List.map (Value.int .u8) (pack bs'), true, 1⟩] :=
  ac_text m s 0 0 bs bs' _ _ _ _ _ _ rfl rfl rfl (txtW_ok hm hs hl hb) rfl rfl rfl (by have := wdth_bd m (by omega); omega) (by omega) (by omega)
theorem ac_bytes0 (bs : List Int) : ACalls Tryz.prog 125 [.pointer (some ⟨0, 0, none⟩)] [some ⟨[.slice (some ⟨1, 0, none⟩) (pack bs).length (pack bs).length, .int .i64 (bs.length : Int), .int .i64 0], false, 1⟩, some ⟨List.map (Value.int .u8) (pack bs), false, 1⟩] (.tuple #[.string (pkB bs), .int .i64 0]) [none, none] := ac_bytes _ _ bs _ rfl rfl
theorem ac_newW0 (bs : List Int) (h : [] = bs) : ACalls Tryz.prog 121 [] [] (.pointer (some ⟨0, 0, none⟩)) [some ⟨[.slice (some ⟨1, 0, none⟩) (pack bs).length (pack bs).length, .int .i64 (bs.length : Int), .int .i64 0], true, 1⟩, some ⟨List.map (Value.int .u8) (pack bs), true, 1⟩] := by subst h; exact ac_newW
theorem strBits_01 (t : ByteArray) : ∀ i, ∀ b ∈ strBits t i, b = 0 ∨ b = 1
  | 0, b, h => by simp [strBits] at h
  | i + 1, b, h => by
    rw [strBits] at h
    rcases List.mem_append.1 h with h | h
    · exact strBits_01 t i b h
    · exact bitsOf_01 _ _ b h
end Go.Proofs.YtdbcbclapipgdaaGreatDoor
