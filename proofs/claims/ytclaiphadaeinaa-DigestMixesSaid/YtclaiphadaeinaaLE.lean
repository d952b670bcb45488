/- DigestMixes: mixing can be undone; the law. -/
import Derived.Test.YtclaiphadaeinaaD14
set_option linter.unusedVariables false
set_option linter.unusedSimpArgs false
namespace Go.Proofs.Ytclaiphadaeinaa
open Go Av
set_option maxRecDepth 100000
theorem wrap32 (a : Int) : IntKind.u32.wrap a = a % 4294967296 := by simp [IntKind.wrap, IntKind.signed, IntKind.bits]
theorem w32_inj {a a' k : Int} (ha : 0 ≤ a ∧ a < 4294967296) (ha' : 0 ≤ a' ∧ a' < 4294967296) (h : w32 (a + k) = w32 (a' + k)) : a = a' := by
  simp only [w32, wrap32] at h
  omega
theorem w32_bd (a : Int) : 0 ≤ w32 a ∧ w32 a < 4294967296 := by simp only [w32, wrap32]; omega
theorem ofInt32 {a : Int} (ha : 0 ≤ a ∧ a < 4294967296) : (BitVec.ofInt 32 a).toNat = a.toNat := by
  rw [BitVec.toNat_ofInt]
  omega
theorem x32_eq (a b : Int) : x32 a b = ((BitVec.ofInt 32 a ^^^ BitVec.ofInt 32 b).toNat : Int) := by
  show IntKind.u32.wrap ((BitVec.ofInt 32 a ^^^ BitVec.ofInt 32 b).toNat : Int) = _
  rw [wrap32]
  have := (BitVec.ofInt 32 a ^^^ BitVec.ofInt 32 b).isLt
  omega
theorem x32_bd (a b : Int) : 0 ≤ x32 a b ∧ x32 a b < 4294967296 := by
  rw [x32_eq]
  have := (BitVec.ofInt 32 a ^^^ BitVec.ofInt 32 b).isLt
  omega
theorem x32_inj {a a' k : Int} (ha : 0 ≤ a ∧ a < 4294967296) (ha' : 0 ≤ a' ∧ a' < 4294967296) (h : x32 a k = x32 a' k) : a = a' := by
  rw [x32_eq, x32_eq] at h
  have h1 : BitVec.ofInt 32 a ^^^ BitVec.ofInt 32 k = BitVec.ofInt 32 a' ^^^ BitVec.ofInt 32 k := BitVec.eq_of_toNat_eq (by omega)
  have h2 : BitVec.ofInt 32 a = BitVec.ofInt 32 a' := by
    have := congrArg (· ^^^ BitVec.ofInt 32 k) h1
    simpa [BitVec.xor_assoc] using this
  have h3 := congrArg BitVec.toNat h2
  rw [ofInt32 ha, ofInt32 ha'] at h3
  omega
theorem or32 {A B : Int} (s : Nat) (hA : 0 ≤ A ∧ A < 4294967296) (hd : A % 2 ^ s = 0) (hB : 0 ≤ B ∧ B < 2 ^ s) (hs : s < 32) : bitv .or .u32 A B = A + B := by
  have hB32 : B < 4294967296 := by
    have : (2 : Int) ^ s ≤ 2 ^ 32 := by exact_mod_cast Nat.pow_le_pow_right (by omega : 0 < 2) (by omega)
    omega
  show IntKind.u32.wrap ((BitVec.ofInt 32 A ||| BitVec.ofInt 32 B).toNat : Int) = _
  rw [BitVec.toNat_or, ofInt32 hA, ofInt32 ⟨hB.1, hB32⟩]
  obtain ⟨q, hq⟩ : ∃ q : Nat, A = q * 2 ^ s := ⟨(A / 2 ^ s).toNat, by
    have h0 : (0 : Int) < 2 ^ s := Int.pow_pos (by omega)
    have h1 := Int.emod_add_mul_ediv A (2 ^ s)
    have h2 : 0 ≤ A / 2 ^ s := Int.ediv_nonneg hA.1 (by omega)
    rw [hd, Int.zero_add] at h1
    rw [Int.toNat_of_nonneg h2, Int.mul_comm]; exact h1.symm⟩
  have hb : B.toNat < 2 ^ s := by
    have : ((2 ^ s : Nat) : Int) = (2 : Int) ^ s := by push_cast; rfl
    omega
  have ha : A.toNat = q <<< s := by
    rw [Nat.shiftLeft_eq, hq]
    have : ((q * 2 ^ s : Nat) : Int) = (q : Int) * 2 ^ s := by push_cast; rfl
    rw [← this]; rfl
  rw [ha, ← Nat.shiftLeft_add_eq_or_of_lt hb, ← ha, wrap32]
  have : A + B < 4294967296 := by
    have hlt : (q <<< s ||| B.toNat) < 2 ^ 32 := Nat.or_lt_two_pow (by rw [← ha]; omega) (by omega)
    rw [← Nat.shiftLeft_add_eq_or_of_lt hb, ← ha] at hlt
    omega
  omega
theorem rot16 (x : Int) (hx : 0 ≤ x ∧ x < 4294967296) : rot x (-16) = (x % 65536) * 65536 + x / 65536 := by
  have h1 : (min (bitv .and .u64 (IntKind.u64.wrap (-16)) 31).toNat 32) = 16 := by decide +kernel
  have h2 : (min (IntKind.u64.wrap (32 - bitv .and .u64 (IntKind.u64.wrap (-16)) 31)).toNat 32) = 16 := by decide +kernel
  have p1 : (2 : Int) ^ 16 = 65536 := by decide
  have p2 : (2 : Int) ^ 16 = 65536 := by decide
  have hm : (x * 65536) % 4294967296 = (x % 65536) * 65536 := by
    have := Int.mul_emod_mul_of_pos (a := 65536) x 65536 (by decide)
    rw [Int.mul_comm x, show (4294967296 : Int) = 65536 * 65536 by decide, this, Int.mul_comm]
  unfold rot
  rw [h1, h2, wrap32]
  simp only [p1, p2]
  rw [hm]
  exact or32 16 (by omega) (by rw [p1]; omega) (by rw [p1]; omega) (by omega)
theorem rot16_inj {x y : Int} (hx : 0 ≤ x ∧ x < 4294967296) (hy : 0 ≤ y ∧ y < 4294967296) (h : rot x (-16) = rot y (-16)) : x = y := by
  rw [rot16 x hx, rot16 y hy] at h
  omega
theorem rot12 (x : Int) (hx : 0 ≤ x ∧ x < 4294967296) : rot x (-12) = (x % 4096) * 1048576 + x / 4096 := by
  have h1 : (min (bitv .and .u64 (IntKind.u64.wrap (-12)) 31).toNat 32) = 20 := by decide +kernel
  have h2 : (min (IntKind.u64.wrap (32 - bitv .and .u64 (IntKind.u64.wrap (-12)) 31)).toNat 32) = 12 := by decide +kernel
  have p1 : (2 : Int) ^ 20 = 1048576 := by decide
  have p2 : (2 : Int) ^ 12 = 4096 := by decide
  have hm : (x * 1048576) % 4294967296 = (x % 4096) * 1048576 := by
    have := Int.mul_emod_mul_of_pos (a := 1048576) x 4096 (by decide)
    rw [Int.mul_comm x, show (4294967296 : Int) = 1048576 * 4096 by decide, this, Int.mul_comm]
  unfold rot
  rw [h1, h2, wrap32]
  simp only [p1, p2]
  rw [hm]
  exact or32 20 (by omega) (by rw [p1]; omega) (by rw [p1]; omega) (by omega)
theorem rot12_inj {x y : Int} (hx : 0 ≤ x ∧ x < 4294967296) (hy : 0 ≤ y ∧ y < 4294967296) (h : rot x (-12) = rot y (-12)) : x = y := by
  rw [rot12 x hx, rot12 y hy] at h
  omega
theorem rot8 (x : Int) (hx : 0 ≤ x ∧ x < 4294967296) : rot x (-8) = (x % 256) * 16777216 + x / 256 := by
  have h1 : (min (bitv .and .u64 (IntKind.u64.wrap (-8)) 31).toNat 32) = 24 := by decide +kernel
  have h2 : (min (IntKind.u64.wrap (32 - bitv .and .u64 (IntKind.u64.wrap (-8)) 31)).toNat 32) = 8 := by decide +kernel
  have p1 : (2 : Int) ^ 24 = 16777216 := by decide
  have p2 : (2 : Int) ^ 8 = 256 := by decide
  have hm : (x * 16777216) % 4294967296 = (x % 256) * 16777216 := by
    have := Int.mul_emod_mul_of_pos (a := 16777216) x 256 (by decide)
    rw [Int.mul_comm x, show (4294967296 : Int) = 16777216 * 256 by decide, this, Int.mul_comm]
  unfold rot
  rw [h1, h2, wrap32]
  simp only [p1, p2]
  rw [hm]
  exact or32 24 (by omega) (by rw [p1]; omega) (by rw [p1]; omega) (by omega)
theorem rot8_inj {x y : Int} (hx : 0 ≤ x ∧ x < 4294967296) (hy : 0 ≤ y ∧ y < 4294967296) (h : rot x (-8) = rot y (-8)) : x = y := by
  rw [rot8 x hx, rot8 y hy] at h
  omega
theorem rot7 (x : Int) (hx : 0 ≤ x ∧ x < 4294967296) : rot x (-7) = (x % 128) * 33554432 + x / 128 := by
  have h1 : (min (bitv .and .u64 (IntKind.u64.wrap (-7)) 31).toNat 32) = 25 := by decide +kernel
  have h2 : (min (IntKind.u64.wrap (32 - bitv .and .u64 (IntKind.u64.wrap (-7)) 31)).toNat 32) = 7 := by decide +kernel
  have p1 : (2 : Int) ^ 25 = 33554432 := by decide
  have p2 : (2 : Int) ^ 7 = 128 := by decide
  have hm : (x * 33554432) % 4294967296 = (x % 128) * 33554432 := by
    have := Int.mul_emod_mul_of_pos (a := 33554432) x 128 (by decide)
    rw [Int.mul_comm x, show (4294967296 : Int) = 33554432 * 128 by decide, this, Int.mul_comm]
  unfold rot
  rw [h1, h2, wrap32]
  simp only [p1, p2]
  rw [hm]
  exact or32 25 (by omega) (by rw [p1]; omega) (by rw [p1]; omega) (by omega)
theorem rot7_inj {x y : Int} (hx : 0 ≤ x ∧ x < 4294967296) (hy : 0 ≤ y ∧ y < 4294967296) (h : rot x (-7) = rot y (-7)) : x = y := by
  rw [rot7 x hx, rot7 y hy] at h
  omega
theorem rot16_bd {x : Int} (hx : 0 ≤ x ∧ x < 4294967296) : 0 ≤ rot x (-16) ∧ rot x (-16) < 4294967296 := by
  rw [rot16 x hx]
  omega
theorem rot12_bd {x : Int} (hx : 0 ≤ x ∧ x < 4294967296) : 0 ≤ rot x (-12) ∧ rot x (-12) < 4294967296 := by
  rw [rot12 x hx]
  omega
theorem x32_comm (a b : Int) : x32 a b = x32 b a := by rw [x32_eq, x32_eq, BitVec.xor_comm]
theorem mix_inj {a b c d a' b' c' d' x y : Int} (ha : 0 ≤ a ∧ a < 4294967296) (hb : 0 ≤ b ∧ b < 4294967296) (hc : 0 ≤ c ∧ c < 4294967296) (hd : 0 ≤ d ∧ d < 4294967296)
    (ha' : 0 ≤ a' ∧ a' < 4294967296) (hb' : 0 ≤ b' ∧ b' < 4294967296) (hc' : 0 ≤ c' ∧ c' < 4294967296) (hd' : 0 ≤ d' ∧ d' < 4294967296) (h : mix a b c d x y = mix a' b' c' d' x y) : [a, b, c, d] = [a', b', c', d'] := by
  unfold mix at h
  extract_lets a1 d1 c1 b1 a2 d2 c2 b2 a1' d1' c1' b1' a2' d2' c2' b2' at h
  simp only [List.cons.injEq, and_true] at h
  obtain ⟨e1, e2, e3, e4⟩ := h
  have hc1 : c1 = c1' := w32_inj (k := d2) (w32_bd _) (w32_bd _) (by show c2 = w32 (c1' + d2); rw [e3, e4])
  have hb1 : b1 = b1' := by
    have r := rot7_inj (x32_bd _ _) (x32_bd _ _) e2
    rw [← e3] at r
    exact x32_inj (rot12_bd (x32_bd _ _)) (rot12_bd (x32_bd _ _)) r
  have hd1 : d1 = d1' := by
    have r := rot8_inj (x32_bd _ _) (x32_bd _ _) e4
    rw [← e1] at r
    exact x32_inj (rot16_bd (x32_bd _ _)) (rot16_bd (x32_bd _ _)) r
  have ha1 : a1 = a1' := w32_inj (k := w32 (b1 + y)) (w32_bd _) (w32_bd _) (by show a2 = w32 (a1' + w32 (b1 + y)); rw [e1, hb1])
  have fc : c = c' := w32_inj (k := d1) hc hc' (by show c1 = w32 (c' + d1); rw [hc1, hd1])
  have fb : b = b' := by
    have r := rot12_inj (x32_bd _ _) (x32_bd _ _) hb1
    rw [← hc1] at r
    exact x32_inj hb hb' r
  have fd : d = d' := by
    have r := rot16_inj (x32_bd _ _) (x32_bd _ _) hd1
    rw [← ha1] at r
    exact x32_inj hd hd' r
  have fa : a = a' := w32_inj (k := w32 (b + x)) ha ha' (by show a1 = w32 (a' + w32 (b + x)); rw [ha1, fb])
  rw [fa, fb, fc, fd]
theorem mix_len (a b c d x y : Int) : (mix a b c d x y).length = 4 := rfl
theorem list4_eq {C : List Int} (h : C.length = 4) : [C.getD 0 0, C.getD 1 0, C.getD 2 0, C.getD 3 0] = C := by
  match C, h with
  | [a0, a1, a2, a3], _ => rfl
set_option maxHeartbeats 4000000 in
theorem law_mixes (v0 v1 v2 v3 w0 w1 w2 w3 x y : Int) (hv0 : 0 ≤ v0 ∧ v0 < 4294967296) (hv1 : 0 ≤ v1 ∧ v1 < 4294967296) (hv2 : 0 ≤ v2 ∧ v2 < 4294967296) (hv3 : 0 ≤ v3 ∧ v3 < 4294967296) (hw0 : 0 ≤ w0 ∧ w0 < 4294967296) (hw1 : 0 ≤ w1 ∧ w1 < 4294967296) (hw2 : 0 ≤ w2 ∧ w2 < 4294967296) (hw3 : 0 ≤ w3 ∧ w3 < 4294967296) : ACalls Try.prog 6 [.agg #[.int .u32 v0, .int .u32 v1, .int .u32 v2, .int .u32 v3], .agg #[.int .u32 w0, .int .u32 w1, .int .u32 w2, .int .u32 w3], .agg #[.int .u32 x, .int .u32 y]] [] (.bool true) [] := by
  have h1 := aw_mix v0 v1 v2 v3 x y
  have h2 := aw_mix w0 w1 w2 w3 x y
  have hXY : mix v0 v1 v2 v3 x y = mix w0 w1 w2 w3 x y ↔ [v0, v1, v2, v3] = [w0, w1, w2, w3] := ⟨mix_inj hv0 hv1 hv2 hv3 hw0 hw1 hw2 hw3, fun h => by
    simp only [List.cons.injEq, and_true] at h
    obtain ⟨rfl, rfl, rfl, rfl⟩ := h
    rfl⟩
  have l1 := mix_len v0 v1 v2 v3 x y
  have l2 := mix_len w0 w1 w2 w3 x y
  generalize mix v0 v1 v2 v3 x y = X at h1 hXY l1
  generalize mix w0 w1 w2 w3 x y = Y at h2 hXY l2
  rw [← list4_eq l1, ← list4_eq l2] at hXY
  have hd : decide ([X.getD 0 0, X.getD 1 0, X.getD 2 0, X.getD 3 0] = [Y.getD 0 0, Y.getD 1 0, Y.getD 2 0, Y.getD 3 0]) = decide ([v0, v1, v2, v3] = [w0, w1, w2, w3]) := decide_eq_decide.2 hXY
  refine acalls_pure Try.func6 rfl rfl rfl ?_
  repeat' first
    | refine st ?_
    | refine st_call (ac_awake) ?_
    | refine st_call (h1) ?_
    | refine st_call (h2) ?_
    | refine st (h := ok_arr_eql rfl rfl (by (repeat constructor)) (by (repeat constructor)) (by rfl) (by rfl) (by kernel_rfl)) ?_
    | refine st (h := ok_arr_neq rfl rfl (by (repeat constructor)) (by (repeat constructor)) (by rfl) (by rfl) (by kernel_rfl)) ?_
    | refine sd (h := ok_arr_eql rfl rfl (by (repeat constructor)) (by (repeat constructor)) (by rfl) (by rfl) (by kernel_rfl)) ?_
    | refine sd (h := ok_arr_neq rfl rfl (by (repeat constructor)) (by (repeat constructor)) (by rfl) (by rfl) (by kernel_rfl)) ?_
    | refine stm ?_
    | refine run_want rfl rfl ?_
    | refine run_unwant rfl rfl ?_
    | refine run_undef rfl rfl ?_
    | refine run_guard1t rfl rfl (by omega) ?_
    | refine run_guard1f rfl rfl (by omega) ?_
    | refine run_guard0t rfl rfl (by omega) ?_
    | refine run_guard0f rfl rfl (by omega) ?_
    | refine run_guard1 rfl rfl (fun h1 => ?_) (fun h1 => ?_)
    | refine run_guard0 rfl rfl (fun h1 => ?_) (fun h1 => ?_)
    | refine run_guard rfl rfl (fun h1 => ?_) (fun h1 => ?_)
    | refine run_nil ?_
    | refine sd ?_
    | refine sdl ?_
    | refine sd_call (ac_awake) ?_
    | refine sd_call (h1) ?_
    | refine sd_call (h2) ?_
    | refine sdm ?_
    | refine sdb ?_
    | refine rund_want rfl rfl ?_
    | refine rund_unwant rfl rfl ?_
    | refine rund_undef rfl rfl ?_
    | refine rund_guard1 rfl rfl (fun h1 => ?_) (fun h1 => ?_)
    | refine rund_guard0 rfl rfl (fun h1 => ?_) (fun h1 => ?_)
    | refine rund_guard rfl rfl (fun h1 => ?_) (fun h1 => ?_)
    | refine rund_nil ?_
    | refine aw_seq ?_
    | refine aw_region (by kernel_rfl) (Nat.le_of_ble_eq_true rfl) ?_
    | refine aw_region_d (id := 1) [0, 1, 3, 3, 11, 3, 35, 127, 3, 3, 515, 3, 2051, 8191, 16383, 3, 3, 98307, 262143, 524287, 1048575] 21 (by kernel_rfl) (by kernel_rfl) (by kernel_rfl) (Nat.le_of_ble_eq_true rfl) ?_
    | refine aw_block ?_
    | refine aw_cond_t rfl ?_
    | refine aw_cond_f rfl ?_
    | refine aw_cond_tp rfl (by omega) ?_
    | refine aw_cond_fp rfl (by omega) ?_
    | refine aw_cond1 rfl (fun h1 => ?_) (fun h1 => ?_)
    | refine aw_cond rfl (fun h1 => ?_) (fun h1 => ?_)
    | refine aw_skip ?_
    | refine aw_exit ?_
    | refine aw_ret ?_
    | refine pp_ret ?_
    | refine pp_normal ?_
  all_goals (simp only [retOf]; rw [hd]; simp)
end Go.Proofs.Ytclaiphadaeinaa
