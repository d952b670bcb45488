/- Bits: the reader; Bits: the reader's end, the reference's reader; Bits: packed bytes; Bits: writers without an error. -/
import Derived.Test.YtdbcbclapipgdaaGreatDoorVO
import Derived.Test.YtdbcbclapipgdaaGreatDoorJ
import Derived.Test.YtdbcbclapipgdaaGreatDoorC6
set_option linter.unusedVariables false
set_option linter.unusedSimpArgs false
namespace Go.Proofs.YtdbcbclapipgdaaGreatDoor
open Go Av
set_option maxRecDepth 20000
theorem or_bit (k : IntKind) (hk : k = .u64 ∨ k = .i64) {A b : Int} (hA : 0 ≤ A ∧ A ≤ 9223372036854775806) (h2 : A % 2 = 0) (hb : 0 ≤ b ∧ b < 2) : bitv .or k A b = A + b := by
  have h : ((BitVec.ofInt 64 A ||| BitVec.ofInt 64 b).toNat : Int) = A + b := by
    have e1 : (BitVec.ofInt 64 A).toNat = A.toNat := by rw [BitVec.toNat_ofInt]; omega
    have e2 : (BitVec.ofInt 64 b).toNat = b.toNat := by rw [BitVec.toNat_ofInt]; omega
    rw [BitVec.toNat_or, e1, e2]
    obtain ⟨q, hq⟩ : ∃ q, A.toNat = q <<< 1 := ⟨A.toNat / 2, by rw [Nat.shiftLeft_eq]; omega⟩
    rw [hq, ← Nat.shiftLeft_add_eq_or_of_lt (by omega : b.toNat < 2 ^ 1), ← hq]
    omega
  rcases hk with rfl | rfl
  · show IntKind.u64.wrap ((BitVec.ofInt 64 A ||| BitVec.ofInt 64 b).toNat : Int) = _
    rw [h]
    exact wrap_id (by simp [IntKind.min, IntKind.signed]; omega) (by simp [IntKind.max, IntKind.signed, IntKind.bits]; omega)
  · show IntKind.i64.wrap ((BitVec.ofInt 64 A ||| BitVec.ofInt 64 b).toNat : Int) = _
    rw [h]
    exact wrap_id (by simp [IntKind.min, IntKind.signed, IntKind.bits]; omega) (by simp [IntKind.max, IntKind.signed, IntKind.bits]; omega)
/-- A bit of a string. -/
def bitD (d : ByteArray) (i : Nat) : Int := ((byteAt d (i / 8)).toNat : Int) / 2 ^ (7 - i % 8) % 2
/-- The number that w bits from a on are. -/
def rdN (d : ByteArray) (a : Nat) : Nat → Int
  | 0 => 0
  | w + 1 => rdN d a w * 2 + bitD d (a + w)
theorem bitD_bd (d i) : 0 ≤ bitD d i ∧ bitD d i < 2 := by unfold bitD; omega
theorem rdN_bd (d a) : ∀ w, 0 ≤ rdN d a w ∧ rdN d a w < 2 ^ w
  | 0 => by simp [rdN]
  | w + 1 => by
    have h1 := rdN_bd d a w
    have h2 := bitD_bd d (a + w)
    have h3 : (2 : Int) ^ (w + 1) = 2 ^ w * 2 := Int.pow_succ ..
    rw [rdN, h3]
    omega
theorem bv_and1_u8 (x : Int) : bitv .and .u8 x 1 = x % 2 := by
  have h : ((BitVec.ofInt 8 x &&& BitVec.ofInt 8 1).toNat : Int) = x % 2 := by
    rw [BitVec.toNat_and, BitVec.toNat_ofInt, BitVec.toNat_ofInt, show ((1 : Int) % (2 ^ 8 : Nat)).toNat = 1 from rfl, Nat.and_one_is_mod]
    omega
  show IntKind.u8.wrap ((BitVec.ofInt 8 x &&& BitVec.ofInt 8 1).toNat : Int) = _
  rw [h]
  exact wrap_id (by simp [IntKind.min, IntKind.signed]; omega) (by simp [IntKind.max, IntKind.signed, IntKind.bits]; omega)
structure Gg where
  j : Nat
  v : Int
  k : Int
set_option maxHeartbeats 1000000 in
theorem ac_get (w a : Nat) (d : ByteArray) (e : Int) (hw : w ≤ 63) (ha : a + w ≤ 8 * d.size) (hd : d.size ≤ 1000000) : ACalls Tryz.prog 149 [.pointer (some ⟨0, 0, none⟩), .int .i64 w] [some ⟨[.string d, .int .i64 a, .int .i64 e], true, 1⟩] (.int .u64 (rdN d a w)) [some ⟨[.string d, .int .i64 ((a + w : Nat) : Int), .int .i64 e], true, 1⟩] := by
  refine acalls_of_aw Tryz.func149 rfl rfl ?_
  repeat' first | intro h1 | refine st ?_ | refine stm ?_ | refine Ja ?_ | refine Jb ?_ | refine Jc ?_ | refine Jd ?_ | refine Je ?_ | refine Jf ?_ | refine Jg ?_ | refine Jh ?_ ?_ | refine Ji ?_ ?_ | refine Jj ?_ ?_ | refine run_nil ?_ | refine sd ?_ | refine sdl ?_ | refine sdm (n := 1) ?_ | refine sdm ?_ | refine sdb ?_ | refine Jk ?_ | refine Jl ?_ | refine Jm ?_ | refine Jn ?_ ?_ | refine Jo ?_ ?_ | refine Jp ?_ ?_ | refine rund_nil ?_ | refine Jz ?_ | refine Jw ?_ | refine J0 (id := 4) [0,1,0,4,12,28,0,64,192,448,960,2044,0,4096,12288,28672,61440,126976,262140,524284,1048572,2097151,4194303] 23 ?_ | refine aw_block ?_ | refine Jq ?_ | refine Jr ?_ | refine Js ?_ | refine Jt ?_ | refine Ju ?_ ?_ | refine Jv ?_ ?_ | refine Jy ?_ | refine aw_exit ?_ | refine aw_ret ?_ | refine pp_ret ?_ | refine pp_normal ?_
  refine aw_loopg
    (S := fun y : Gg => [(0, .pointer (some ⟨0, 0, none⟩)), (5, .int .u64 y.v), (6, .int .i64 w), (7, .int .i64 y.j)])
    (B := fun y : Gg => [some ⟨[.string d, .int .i64 y.k, .int .i64 e], true, 1⟩])
    (R := fun y : Gg => y.j ≤ w ∧ y.v = rdN d a y.j ∧ y.k = ((a + y.j : Nat) : Int))
    (μ := fun y : Gg => w - y.j) ⟨0, 0, a⟩ (fitsD [0]) ⟨Nat.zero_le _, rfl, rfl⟩ ?_
  rintro ⟨j, v, k⟩ ⟨g1, g2, g3⟩
  dsimp only at *
  have hb := rdN_bd d a j
  by_cases hj : j < w
  · have hp : (2 : Int) ^ j ≤ 4611686018427387904 := by
      have h1 : (2 : Nat) ^ j ≤ 2 ^ 62 := Nat.pow_le_pow_right (by omega) (by omega)
      have h3 : ((2 ^ j : Nat) : Int) = (2 : Int) ^ j := by push_cast; rfl
      omega
    have e1 : min (7 - k % 8).toNat IntKind.u8.bits = 7 - (a + j) % 8 := by show min (7 - k % 8).toNat 8 = _; omega
    have e2 : (k / 8).toNat = (a + j) / 8 := by omega
    have e3 := bv_and1_u8 (((byteAt d (k / 8).toNat).toNat : Int) / 2 ^ (min (7 - k % 8).toNat IntKind.u8.bits))
    have e4 : IntKind.u64.wrap (v * 2 ^ (min (Int.toNat 1) IntKind.u64.bits)) = v * 2 := by
      rw [show (2 : Int) ^ (min (Int.toNat 1) IntKind.u64.bits) = 2 from by decide]
      exact wrap_id (by simp [IntKind.min, IntKind.signed]; omega) (by simp [IntKind.max, IntKind.signed, IntKind.bits]; omega)
    have e5 := or_bit .u64 (.inl rfl) (A := v * 2) (b := bitD d (a + j)) (by omega) (by omega) (bitD_bd _ _)
    repeat' first | intro h1 | refine st ?_ | refine stm ?_ | refine Ja ?_ | refine Jb ?_ | refine Jc ?_ | refine Jd ?_ | refine Je ?_ | refine Jf ?_ | refine Jg ?_ | refine Jh ?_ ?_ | refine Ji ?_ ?_ | refine Jj ?_ ?_ | refine run_nil ?_ | refine sd ?_ | refine sdl ?_ | refine sdm (n := 1) ?_ | refine sdm ?_ | refine sdb ?_ | refine Jk ?_ | refine Jl ?_ | refine Jm ?_ | refine Jn ?_ ?_ | refine Jo ?_ ?_ | refine Jp ?_ ?_ | refine rund_nil ?_ | refine Jz ?_ | refine Jw ?_ | refine J0 (id := 4) [0,1,0,4,12,28,0,64,192,448,960,2044,0,4096,12288,28672,61440,126976,262140,524284,1048572,2097151,4194303] 23 ?_ | refine aw_block ?_ | refine Jq ?_ | refine Jr ?_ | refine Js ?_ | refine Jt ?_ | refine Ju ?_ ?_ | refine Jv ?_ ?_ | refine Jy ?_ | refine aw_exit ?_ | refine aw_ret ?_ | refine pp_ret ?_ | refine pp_normal ?_
    refine Exists.intro ⟨j + 1, _, _⟩ ⟨fitsD [0], ⟨hj, ?_, by dsimp only; omega⟩, by dsimp only; omega⟩
    dsimp only
    rw [rdN, ← g2, ← e5]
    refine Eq.trans (b := bitv .or .u64 (IntKind.u64.wrap (v * 2 ^ (min (Int.toNat 1) IntKind.u64.bits))) (IntKind.u64.wrap (bitv .and .u8 (((byteAt d (k / 8).toNat).toNat : Int) / 2 ^ (min (7 - k % 8).toNat IntKind.u8.bits)) 1))) rfl ?_
    rw [e4, e3, e1, e2, bitD, wrap_id (by simp [IntKind.min, IntKind.signed]; omega) (by simp [IntKind.max, IntKind.signed, IntKind.bits]; omega)]
  · obtain rfl : j = w := by omega
    repeat' first | intro h1 | refine st ?_ | refine stm ?_ | refine Ja ?_ | refine Jb ?_ | refine Jc ?_ | refine Jd ?_ | refine Je ?_ | refine Jf ?_ | refine Jg ?_ | refine Jh ?_ ?_ | refine Ji ?_ ?_ | refine Jj ?_ ?_ | refine run_nil ?_ | refine sd ?_ | refine sdl ?_ | refine sdm (n := 1) ?_ | refine sdm ?_ | refine sdb ?_ | refine Jk ?_ | refine Jl ?_ | refine Jm ?_ | refine Jn ?_ ?_ | refine Jo ?_ ?_ | refine Jp ?_ ?_ | refine rund_nil ?_ | refine Jz ?_ | refine Jw ?_ | refine J0 (id := 4) [0,1,0,4,12,28,0,64,192,448,960,2044,0,4096,12288,28672,61440,126976,262140,524284,1048572,2097151,4194303] 23 ?_ | refine aw_block ?_ | refine Jq ?_ | refine Jr ?_ | refine Js ?_ | refine Jt ?_ | refine Ju ?_ ?_ | refine Jv ?_ ?_ | refine Jy ?_ | refine aw_exit ?_ | refine aw_ret ?_ | refine pp_ret ?_ | refine pp_normal ?_
    subst g2 g3
    exact pm_ret _ (renumD [0]) rfl
theorem ac_rfail (a e c : Int) (d : ByteArray) : ACalls Tryz.prog 175 [.pointer (some ⟨0, 0, none⟩), .int .i64 c] [some ⟨[.string d, .int .i64 a, .int .i64 e], true, 1⟩] (.tuple #[]) [some ⟨[.string d, .int .i64 a, .int .i64 (if e = 0 then c else e)], true, 1⟩] := by
  by_cases he : e = 0
  · subst he
    refine acalls_of_aw Tryz.func175 rfl rfl ?_
    repeat' first | intro h1 | refine st ?_ | refine stm ?_ | refine Ja ?_ | refine Jb ?_ | refine Jc ?_ | refine Jd ?_ | refine Je ?_ | refine Jf ?_ | refine Jg ?_ | refine Jh ?_ ?_ | refine Ji ?_ ?_ | refine Jj ?_ ?_ | refine run_nil ?_ | refine Jz ?_ | refine Jw ?_ | refine aw_block ?_ | refine Jq ?_ | refine Jr ?_ | refine Js ?_ | refine Jt ?_ | refine Ju ?_ ?_ | refine Jv ?_ ?_ | refine Jy ?_ | refine aw_exit ?_ | refine aw_ret ?_ | refine pp_ret ?_ | refine pp_normal ?_
    all_goals first | exact pm_normal _ (renumD [0]) rfl | (exfalso; omega)
  · rw [if_neg he]
    refine acalls_of_aw Tryz.func175 rfl rfl ?_
    repeat' first | intro h1 | refine st ?_ | refine stm ?_ | refine Ja ?_ | refine Jb ?_ | refine Jc ?_ | refine Jd ?_ | refine Je ?_ | refine Jf ?_ | refine Jg ?_ | refine Jh ?_ ?_ | refine Ji ?_ ?_ | refine Jj ?_ ?_ | refine run_nil ?_ | refine Jz ?_ | refine Jw ?_ | refine aw_block ?_ | refine Jq ?_ | refine Jr ?_ | refine Js ?_ | refine Jt ?_ | refine Ju ?_ ?_ | refine Jv ?_ ?_ | refine Jy ?_ | refine aw_exit ?_ | refine aw_ret ?_ | refine pp_ret ?_ | refine pp_normal ?_
    all_goals first | exact pm_normal _ (renumD [0]) rfl | (exfalso; omega)
theorem ac_left (a : Int) (d : ByteArray) (ha : 0 ≤ a ∧ a ≤ 8 * d.size) (hd : d.size ≤ 1000000) : ACalls Tryz.prog 150 [.pointer (some ⟨0, 0, none⟩)] [some ⟨[.string d, .int .i64 a, .int .i64 0], false, 1⟩] (.int .i64 (8 * d.size - a)) [none] := by
  refine acalls_law Tryz.func150 rfl rfl rfl ?_
  repeat' first | intro h1 | refine st ?_ | refine stm ?_ | refine Ja ?_ | refine Jb ?_ | refine Jc ?_ | refine Jd ?_ | refine Je ?_ | refine Jf ?_ | refine Jg ?_ | refine Jh ?_ ?_ | refine Ji ?_ ?_ | refine Jj ?_ ?_ | refine run_nil ?_ | refine sd ?_ | refine sdl ?_ | refine sdm (n := 1) ?_ | refine sdm ?_ | refine sdb ?_ | refine Jk ?_ | refine Jl ?_ | refine Jm ?_ | refine Jn ?_ ?_ | refine Jo ?_ ?_ | refine Jp ?_ ?_ | refine rund_nil ?_ | refine Jz ?_ | refine Jw ?_ | refine J0 (id := 3) [0,1,3,7,15,31,0,64,192,448,1023,2047] 12 ?_ | refine aw_block ?_ | refine Jq ?_ | refine Jr ?_ | refine Js ?_ | refine Jt ?_ | refine Ju ?_ ?_ | refine Jv ?_ ?_ | refine Jy ?_ | refine aw_exit ?_ | refine aw_ret ?_ | refine pp_ret ?_ | refine pp_normal ?_
  all_goals first | rfl | (exfalso; omega)
theorem ac_newR (d : ByteArray) (hd : d.size ≤ 65536) : ACalls Tryz.prog 97 [.string d] [] (.pointer (some ⟨0, 0, none⟩)) [some ⟨[.string d, .int .i64 0, .int .i64 0], true, 1⟩] := by
  refine acalls_of_aw Tryz.func97 rfl rfl ?_
  repeat' first | intro h1 | refine st ?_ | refine stm ?_ | refine Ja ?_ | refine Jb ?_ | refine Jc ?_ | refine Jd ?_ | refine Je ?_ | refine Jf ?_ | refine Jg ?_ | refine Jh ?_ ?_ | refine Ji ?_ ?_ | refine Jj ?_ ?_ | refine run_nil ?_ | refine Jz ?_ | refine Jw ?_ | refine aw_block ?_ | refine Jq ?_ | refine Jr ?_ | refine Js ?_ | refine Jt ?_ | refine Ju ?_ ?_ | refine Jv ?_ ?_ | refine Jy ?_ | refine aw_exit ?_ | refine aw_ret ?_ | refine pp_ret ?_ | refine pp_normal ?_
  all_goals first | exact pm_ret _ (renumD [0]) rfl | (exfalso; omega)
/-- What a reader gives for a field; where it is then; its error. -/
def fieldR (d : ByteArray) (a : Nat) (e : Int) (right : Bool) (w : Int) : Int × Nat × Int :=
  if e ≠ 0 then (0, a, e) else if right = false then (0, a, 1) else if (8 * d.size : Int) - a < w then (0, a, 9) else (rdN d a w.toNat, a + w.toNat, 0)
set_option maxHeartbeats 1000000 in
theorem ac_fieldR (right : Bool) (w e e' v : Int) (a a' : Nat) (d : ByteArray) (hst : fieldR d a e right w = (v, a', e')) (ha : a ≤ 8 * d.size) (hd : d.size ≤ 1000000) (hw : right = true → 1 ≤ w ∧ w ≤ 63) :
    ACalls Tryz.prog 174 [.pointer (some ⟨0, 0, none⟩), .bool right, .int .i64 w] [some ⟨[.string d, .int .i64 (a : Int), .int .i64 e], true, 1⟩] (.int .u64 v) [some ⟨[.string d, .int .i64 (a' : Int), .int .i64 e'], true, 1⟩] := by
  unfold fieldR at hst
  by_cases he : e = 0
  · subst he
    rw [if_neg (by simp)] at hst
    cases right
    · rw [if_pos rfl] at hst
      simp only [Prod.mk.injEq] at hst
      obtain ⟨rfl, rfl, rfl⟩ := hst
      have HX := ac_rfail a 0 1 d
      refine acalls_of_aw Tryz.func174 rfl rfl ?_
      repeat' first | intro h1 | refine st ?_ | refine stMW [0] HX ?_ | refine stm ?_ | refine Ja ?_ | refine Jb ?_ | refine Jc ?_ | refine Jd ?_ | refine Je ?_ | refine Jf ?_ | refine Jg ?_ | refine Jh ?_ ?_ | refine Ji ?_ ?_ | refine Jj ?_ ?_ | refine run_nil ?_ | refine Jz ?_ | refine Jw ?_ | refine aw_block ?_ | refine Jq ?_ | refine Jr ?_ | refine Js ?_ | refine Jt ?_ | refine Ju ?_ ?_ | refine Jv ?_ ?_ | refine Jy ?_ | refine aw_exit ?_ | refine aw_ret ?_ | refine pp_ret ?_ | refine pp_normal ?_
      all_goals first | exact pm_ret _ (renumD [0]) rfl | (exfalso; omega)
    · rw [if_neg (by simp)] at hst
      have hw := hw rfl
      have HL := ac_left a d (by omega) hd
      by_cases hs : (8 * d.size : Int) - a < w
      · rw [if_pos hs] at hst
        simp only [Prod.mk.injEq] at hst
        obtain ⟨rfl, rfl, rfl⟩ := hst
        have HX := ac_rfail a 0 9 d
        refine acalls_of_aw Tryz.func174 rfl rfl ?_
        repeat' first | intro h1 | refine st ?_ | refine stMW [0] HX ?_ | refine stRW [0] HL ?_ | refine sdRW [0] HL ?_ | refine stm ?_ | refine Ja ?_ | refine Jb ?_ | refine Jc ?_ | refine Jd ?_ | refine Je ?_ | refine Jf ?_ | refine Jg ?_ | refine Jh ?_ ?_ | refine Ji ?_ ?_ | refine Jj ?_ ?_ | refine run_nil ?_ | refine Jz ?_ | refine Jw ?_ | refine aw_block ?_ | refine Jq ?_ | refine Jr ?_ | refine Js ?_ | refine Jt ?_ | refine Ju ?_ ?_ | refine Jv ?_ ?_ | refine Jy ?_ | refine aw_exit ?_ | refine aw_ret ?_ | refine pp_ret ?_ | refine pp_normal ?_
        all_goals first | exact pm_ret _ (renumD [0]) rfl | (exfalso; omega)
      · rw [if_neg hs] at hst
        simp only [Prod.mk.injEq] at hst
        obtain ⟨rfl, rfl, rfl⟩ := hst
        have HX := ac_get w.toNat a d 0 (by omega) (by omega) hd
        rw [show ((w.toNat : Nat) : Int) = w by omega] at HX
        refine acalls_of_aw Tryz.func174 rfl rfl ?_
        repeat' first | intro h1 | refine st ?_ | refine stMW [0] HX ?_ | refine stRW [0] HL ?_ | refine sdRW [0] HL ?_ | refine stm ?_ | refine Ja ?_ | refine Jb ?_ | refine Jc ?_ | refine Jd ?_ | refine Je ?_ | refine Jf ?_ | refine Jg ?_ | refine Jh ?_ ?_ | refine Ji ?_ ?_ | refine Jj ?_ ?_ | refine run_nil ?_ | refine Jz ?_ | refine Jw ?_ | refine aw_block ?_ | refine Jq ?_ | refine Jr ?_ | refine Js ?_ | refine Jt ?_ | refine Ju ?_ ?_ | refine Jv ?_ ?_ | refine Jy ?_ | refine aw_exit ?_ | refine aw_ret ?_ | refine pp_ret ?_ | refine pp_normal ?_
        all_goals first | exact pm_ret _ (renumD [0]) rfl | (exfalso; omega)
  · rw [if_pos he] at hst
    simp only [Prod.mk.injEq] at hst
    obtain ⟨rfl, rfl, rfl⟩ := hst
    refine acalls_of_aw Tryz.func174 rfl rfl ?_
    repeat' first | intro h1 | refine st ?_ | refine stm ?_ | refine Ja ?_ | refine Jb ?_ | refine Jc ?_ | refine Jd ?_ | refine Je ?_ | refine Jf ?_ | refine Jg ?_ | refine Jh ?_ ?_ | refine Ji ?_ ?_ | refine Jj ?_ ?_ | refine run_nil ?_ | refine Jz ?_ | refine Jw ?_ | refine aw_block ?_ | refine Jq ?_ | refine Jr ?_ | refine Js ?_ | refine Jt ?_ | refine Ju ?_ ?_ | refine Jv ?_ ?_ | refine Jy ?_ | refine aw_exit ?_ | refine aw_ret ?_ | refine pp_ret ?_ | refine pp_normal ?_
    all_goals first | exact pm_ret _ (renumD [0]) rfl | (exfalso; omega)
def unsR (d : ByteArray) (a : Nat) (e w : Int) : Int × Nat × Int := fieldR d a e (decide (1 ≤ w ∧ w ≤ 63)) w
theorem fieldR_bd {d : ByteArray} {a a' : Nat} {e e' w v : Int} {r : Bool} (h : fieldR d a e r w = (v, a', e')) (hw : r = true → 1 ≤ w ∧ w ≤ 63) : 0 ≤ v ∧ v ≤ 9223372036854775807 := by
  unfold fieldR at h
  split at h
  · simp only [Prod.mk.injEq] at h; omega
  · split at h
    · simp only [Prod.mk.injEq] at h; omega
    · rename_i h2
      have hw := hw (by simpa using h2)
      split at h
      · simp only [Prod.mk.injEq] at h; omega
      · simp only [Prod.mk.injEq] at h
        have hb := rdN_bd d a w.toNat
        have h1 : (2 : Nat) ^ w.toNat ≤ 2 ^ 63 := Nat.pow_le_pow_right (by omega) (by omega)
        have h3 : ((2 ^ w.toNat : Nat) : Int) = (2 : Int) ^ w.toNat := by push_cast; rfl
        omega
theorem ac_unsR (w e e' v : Int) (a a' : Nat) (d : ByteArray) (hst : unsR d a e w = (v, a', e')) (ha : a ≤ 8 * d.size) (hd : d.size ≤ 1000000) (hw : -9223372036854775808 ≤ w ∧ w ≤ 9223372036854775807) :
    ACalls Tryz.prog 133 [.pointer (some ⟨0, 0, none⟩), .int .i64 w] [some ⟨[.string d, .int .i64 (a : Int), .int .i64 e], true, 1⟩] (.int .i64 v) [some ⟨[.string d, .int .i64 (a' : Int), .int .i64 e'], true, 1⟩] := by
  unfold unsR at hst
  by_cases h1 : 1 ≤ w
  · have hst' : fieldR d a e (decide (w ≤ 63)) w = (v, a', e') := by rw [← hst]; congr 1; simp [h1]
    have hv := fieldR_bd hst' (by simp; omega)
    have HX := ac_fieldR (decide (w ≤ 63)) w e e' v a a' d hst' ha hd (by simp; omega)
    refine acalls_of_aw Tryz.func133 rfl rfl ?_
    repeat' first | intro h1 | refine st ?_ | refine stMW [0] HX ?_ | refine stm ?_ | refine Ja ?_ | refine Jb ?_ | refine Jc ?_ | refine Jd ?_ | refine Je ?_ | refine Jf ?_ | refine Jg ?_ | refine Jh ?_ ?_ | refine Ji ?_ ?_ | refine Jj ?_ ?_ | refine run_nil ?_ | refine Jz ?_ | refine Jw ?_ | refine aw_block ?_ | refine Jq ?_ | refine Jr ?_ | refine Js ?_ | refine Jt ?_ | refine Ju ?_ ?_ | refine Jv ?_ ?_ | refine Jy ?_ | refine aw_exit ?_ | refine aw_ret ?_ | refine pp_ret ?_ | refine pp_normal ?_
    all_goals first | exact pm_ret _ (renumD [0]) rfl | (exfalso; omega)
  · have hst' : fieldR d a e false w = (v, a', e') := by rw [← hst]; congr 1; simp [h1]
    have hv := fieldR_bd hst' (by simp)
    have HX := ac_fieldR false w e e' v a a' d hst' ha hd (by simp)
    refine acalls_of_aw Tryz.func133 rfl rfl ?_
    repeat' first | intro h1 | refine st ?_ | refine stMW [0] HX ?_ | refine stm ?_ | refine Ja ?_ | refine Jb ?_ | refine Jc ?_ | refine Jd ?_ | refine Je ?_ | refine Jf ?_ | refine Jg ?_ | refine Jh ?_ ?_ | refine Ji ?_ ?_ | refine Jj ?_ ?_ | refine run_nil ?_ | refine Jz ?_ | refine Jw ?_ | refine aw_block ?_ | refine Jq ?_ | refine Jr ?_ | refine Js ?_ | refine Jt ?_ | refine Ju ?_ ?_ | refine Jv ?_ ?_ | refine Jy ?_ | refine aw_exit ?_ | refine aw_ret ?_ | refine pp_ret ?_ | refine pp_normal ?_
    all_goals first | exact pm_ret _ (renumD [0]) rfl | (exfalso; omega)
theorem fieldR_cases {d : ByteArray} {a a' : Nat} {e e' w v : Int} {r : Bool} (h : fieldR d a e r w = (v, a', e')) :
    (e' ≠ 0 ∧ v = 0 ∧ a' = a ∧ (e ≠ 0 → e' = e)) ∨ (e' = 0 ∧ e = 0 ∧ r = true ∧ a' = a + w.toNat ∧ v = rdN d a w.toNat ∧ w ≤ 8 * d.size - a) := by
  unfold fieldR at h
  split at h
  · simp only [Prod.mk.injEq] at h; obtain ⟨rfl, rfl, rfl⟩ := h; rename_i h1; exact .inl ⟨h1, rfl, rfl, fun _ => rfl⟩
  · rename_i h0
    split at h
    · simp only [Prod.mk.injEq] at h; obtain ⟨rfl, rfl, rfl⟩ := h; exact .inl ⟨by decide, rfl, rfl, fun h => absurd h h0⟩
    · split at h
      · simp only [Prod.mk.injEq] at h; obtain ⟨rfl, rfl, rfl⟩ := h; exact .inl ⟨by decide, rfl, rfl, fun h => absurd h h0⟩
      · simp only [Prod.mk.injEq] at h; obtain ⟨rfl, rfl, rfl⟩ := h
        rename_i h2 h3
        exact .inr ⟨rfl, by omega, by simpa using h2, rfl, rfl, by omega⟩
def flgR (d : ByteArray) (a : Nat) (e : Int) : Bool × Nat × Int := (decide ((fieldR d a e true 1).1 = 1), (fieldR d a e true 1).2)
theorem ac_flgR (e e' : Int) (v : Bool) (a a' : Nat) (d : ByteArray) (hst : flgR d a e = (v, a', e')) (ha : a ≤ 8 * d.size) (hd : d.size ≤ 1000000) :
    ACalls Tryz.prog 131 [.pointer (some ⟨0, 0, none⟩)] [some ⟨[.string d, .int .i64 (a : Int), .int .i64 e], true, 1⟩] (.bool v) [some ⟨[.string d, .int .i64 (a' : Int), .int .i64 e'], true, 1⟩] := by
  unfold flgR at hst
  obtain ⟨v1, a1, e1, hf⟩ : ∃ v a1 e1, fieldR d a e true 1 = (v, a1, e1) := ⟨_, _, _, rfl⟩
  rw [hf] at hst
  simp only [Prod.mk.injEq] at hst
  obtain ⟨rfl, rfl, rfl⟩ := hst
  have HX := ac_fieldR true 1 e e1 v1 a a1 d hf ha hd (by simp)
  refine acalls_of_aw Tryz.func131 rfl rfl ?_
  repeat' first | intro h1 | refine st ?_ | refine stMW [0] HX ?_ | refine stm ?_ | refine Ja ?_ | refine Jb ?_ | refine Jc ?_ | refine Jd ?_ | refine Je ?_ | refine Jf ?_ | refine Jg ?_ | refine Jh ?_ ?_ | refine Ji ?_ ?_ | refine Jj ?_ ?_ | refine run_nil ?_ | refine Jz ?_ | refine Jw ?_ | refine aw_block ?_ | refine Jq ?_ | refine Jr ?_ | refine Js ?_ | refine Jt ?_ | refine Ju ?_ ?_ | refine Jv ?_ ?_ | refine Jy ?_ | refine aw_exit ?_ | refine aw_ret ?_ | refine pp_ret ?_ | refine pp_normal ?_
  all_goals first | exact pm_ret _ (renumD [0]) rfl | (exfalso; omega)
/-- The bytes that stand from a bit on. -/
def rdB (d : ByteArray) (a : Nat) : Nat → List Int
  | 0 => []
  | n + 1 => rdB d a n ++ [rdN d (a + 8 * n) 8]
theorem rdB_len (d a) : ∀ n, (rdB d a n).length = n
  | 0 => rfl
  | n + 1 => by rw [rdB, List.length_append, rdB_len d a n]; rfl
theorem rdB_rng (d a) : ∀ n, ∀ z ∈ rdB d a n, 0 ≤ z ∧ z ≤ 255
  | 0, z, h => by cases h
  | n + 1, z, h => by
    rw [rdB, List.mem_append] at h
    rcases h with h | h
    · exact rdB_rng d a n z h
    · rw [List.mem_singleton] at h
      have := rdN_bd d (a + 8 * n) 8
      omega
/-- What a reader gives for a text; where it is then; its error. -/
def txtR (d : ByteArray) (a : Nat) (e m : Int) : ByteArray × Nat × Int :=
  if (fieldR d a e (decide (1 ≤ m ∧ m ≤ 4095)) (wdth m)).2.2 ≠ 0 then (⟨#[]⟩, (fieldR d a e (decide (1 ≤ m ∧ m ≤ 4095)) (wdth m)).2)
  else if m < (fieldR d a e (decide (1 ≤ m ∧ m ≤ 4095)) (wdth m)).1 then (⟨#[]⟩, (fieldR d a e (decide (1 ≤ m ∧ m ≤ 4095)) (wdth m)).2.1, 2)
  else if (8 * d.size : Int) - (fieldR d a e (decide (1 ≤ m ∧ m ≤ 4095)) (wdth m)).2.1 < 8 * (fieldR d a e (decide (1 ≤ m ∧ m ≤ 4095)) (wdth m)).1 then (⟨#[]⟩, (fieldR d a e (decide (1 ≤ m ∧ m ≤ 4095)) (wdth m)).2.1, 9)
  else (⟨((rdB d (fieldR d a e (decide (1 ≤ m ∧ m ≤ 4095)) (wdth m)).2.1 (fieldR d a e (decide (1 ≤ m ∧ m ≤ 4095)) (wdth m)).1.toNat).map b8).toArray⟩, (fieldR d a e (decide (1 ≤ m ∧ m ≤ 4095)) (wdth m)).2.1 + 8 * (fieldR d a e (decide (1 ≤ m ∧ m ≤ 4095)) (wdth m)).1.toNat, 0)
structure Xg where
  i : Nat
  Z : List Int
set_option maxHeartbeats 2000000 in
theorem ac_txtR (m e e' : Int) (t : ByteArray) (a a' : Nat) (d : ByteArray) (hst : txtR d a e m = (t, a', e')) (ha : a ≤ 8 * d.size) (hd : d.size ≤ 1000000) (hm : -9223372036854775808 ≤ m ∧ m ≤ 9223372036854775807) :
    ACalls Tryz.prog 132 [.pointer (some ⟨0, 0, none⟩), .int .i64 m] [some ⟨[.string d, .int .i64 (a : Int), .int .i64 e], true, 1⟩] (.string t) [some ⟨[.string d, .int .i64 (a' : Int), .int .i64 e'], true, 1⟩] := by
  unfold txtR at hst
  have HW := ac_width m hm
  obtain ⟨v, a1, e1, hf⟩ : ∃ v a1 e1, fieldR d a e (decide (1 ≤ m ∧ m ≤ 4095)) (wdth m) = (v, a1, e1) := ⟨_, _, _, rfl⟩
  rw [hf] at hst
  dsimp only at hst
  have hwd : 1 ≤ m → 1 ≤ wdth m ∧ wdth m ≤ 63 := fun h => wdth_bd m (by omega)
  have hv := fieldR_bd hf (by simp; omega)
  have HF := ac_fieldR _ _ e e1 v a a1 d hf ha hd (by simp; omega)
  have hcs := fieldR_cases hf
  by_cases he1 : e1 = 0
  · rw [if_neg (by simpa using he1)] at hst
    obtain ⟨c1, c2, c3, c4, c5, c6⟩ : e1 = 0 ∧ e = 0 ∧ decide (1 ≤ m ∧ m ≤ 4095) = true ∧ a1 = a + (wdth m).toNat ∧ v = rdN d a (wdth m).toNat ∧ wdth m ≤ 8 * d.size - a := by
      rcases hcs with h | h
      · exact absurd he1 h.1
      · exact h
    have c3 := of_decide_eq_true c3
    have hwd := hwd c3.1
    subst e1
    have HL := ac_left a1 d (by omega) hd
    by_cases h2 : m < v
    · rw [if_pos h2] at hst
      simp only [Prod.mk.injEq] at hst
      obtain ⟨rfl, rfl, rfl⟩ := hst
      have HX := ac_rfail a1 0 2 d
      refine acalls_of_aw Tryz.func132 rfl rfl ?_
      repeat' first | intro h1 | refine st ?_ | refine st_call (ac_limit m) ?_ | refine st_call (HW) ?_ | refine stMW [0] HF ?_ | refine stMW [0] HX ?_ | refine st (h := ok_makeFunc (by ((repeat (apply ArgsR.cons; rfl)); exact ArgsR.nil)) (by ((repeat (apply ArgsR.cons; rfl)); exact ArgsR.nil))) ?_ | refine stm ?_ | refine Ja ?_ | refine Jb ?_ | refine Jc ?_ | refine Jd ?_ | refine Je ?_ | refine Jf ?_ | refine Jg ?_ | refine Jh ?_ ?_ | refine Ji ?_ ?_ | refine Jj ?_ ?_ | refine run_nil ?_ | refine Jz ?_ | refine Jw ?_ | refine aw_block ?_ | refine Jq ?_ | refine Jr ?_ | refine Js ?_ | refine Jt ?_ | refine Ju ?_ ?_ | refine Jv ?_ ?_ | refine Jy ?_ | refine aw_exit ?_ | refine aw_ret ?_ | refine pp_ret ?_ | refine pp_normal ?_
      all_goals first | exact pm_ret _ (renumD [0]) rfl | (exfalso; omega)
    · rw [if_neg h2] at hst
      by_cases h3 : (8 * d.size : Int) - a1 < 8 * v
      · rw [if_pos h3] at hst
        simp only [Prod.mk.injEq] at hst
        obtain ⟨rfl, rfl, rfl⟩ := hst
        have HX := ac_rfail a1 0 9 d
        refine acalls_of_aw Tryz.func132 rfl rfl ?_
        repeat' first | intro h1 | refine st ?_ | refine st_call (ac_limit m) ?_ | refine st_call (HW) ?_ | refine stMW [0] HF ?_ | refine stRW [0] HL ?_ | refine stMW [0] HX ?_ | refine st (h := ok_makeFunc (by ((repeat (apply ArgsR.cons; rfl)); exact ArgsR.nil)) (by ((repeat (apply ArgsR.cons; rfl)); exact ArgsR.nil))) ?_ | refine stm ?_ | refine Ja ?_ | refine Jb ?_ | refine Jc ?_ | refine Jd ?_ | refine Je ?_ | refine Jf ?_ | refine Jg ?_ | refine Jh ?_ ?_ | refine Ji ?_ ?_ | refine Jj ?_ ?_ | refine run_nil ?_ | refine Jz ?_ | refine Jw ?_ | refine aw_block ?_ | refine Jq ?_ | refine Jr ?_ | refine Js ?_ | refine Jt ?_ | refine Ju ?_ ?_ | refine Jv ?_ ?_ | refine Jy ?_ | refine aw_exit ?_ | refine aw_ret ?_ | refine pp_ret ?_ | refine pp_normal ?_
        all_goals first | exact pm_ret _ (renumD [0]) rfl | (exfalso; omega)
      · rw [if_neg h3] at hst
        simp only [Prod.mk.injEq] at hst
        obtain ⟨ht, ha', rfl⟩ := hst
        obtain ⟨N, hN⟩ : ∃ N, v.toNat = N := ⟨_, rfl⟩
        rw [hN] at ht ha'
        clear c5 hf hcs
        refine acalls_of_aw Tryz.func132 rfl rfl ?_
        repeat' first | intro h1 | refine st ?_ | refine st_call (ac_limit m) ?_ | refine st_call (HW) ?_ | refine stMW [0] HF ?_ | refine stRW [0] HL ?_ | refine st (h := ok_makeFunc (by ((repeat (apply ArgsR.cons; rfl)); exact ArgsR.nil)) (by ((repeat (apply ArgsR.cons; rfl)); exact ArgsR.nil))) ?_ | refine stm ?_ | refine Ja ?_ | refine Jb ?_ | refine Jc ?_ | refine Jd ?_ | refine Je ?_ | refine Jf ?_ | refine Jg ?_ | refine Jh ?_ ?_ | refine Ji ?_ ?_ | refine Jj ?_ ?_ | refine run_nil ?_ | refine Jz ?_ | refine Jw ?_ | refine aw_block ?_ | refine Jq ?_ | refine Jr ?_ | refine Js ?_ | refine Jt ?_ | refine Ju ?_ ?_ | refine Jv ?_ ?_ | refine Jy ?_ | refine aw_exit ?_ | refine aw_ret ?_ | refine pp_ret ?_ | refine pp_normal ?_
        rw [hN]
        refine aw_loopg
          (S := fun y : Xg => [(6, .func (.func 149) #[.pointer (some ⟨0, 0, none⟩)] #[]), (7, .slice (some ⟨1, 0, none⟩) N N), (41, .int .i64 N), (42, .int .i64 y.i)])
          (B := fun y : Xg => [some ⟨[.string d, .int .i64 ((a1 + 8 * y.i : Nat) : Int), .int .i64 0], true, 1⟩, some ⟨List.map (Value.int .u8) y.Z, true, 1⟩])
          (R := fun y : Xg => y.i ≤ N ∧ y.Z = rdB d a1 y.i ++ List.replicate (N - y.i) 0)
          (μ := fun y : Xg => N - y.i) ⟨0, List.replicate N 0⟩ (fitsD [0, 1] (h4 := .blk rfl (WkL.refl _) rfl (.blk rfl (.ofEq (by refine Eq.trans ?_ (renL_map (fun _ => rfl) _).symm; rw [List.map_replicate])) rfl .nil))) ⟨Nat.zero_le _, rfl⟩ ?_
        rintro ⟨i, Z⟩ ⟨g1, g2⟩
        dsimp only at *
        have hZl : Z.length = N := by rw [g2, List.length_append, rdB_len, List.length_replicate]; omega
        by_cases hi : i < N
        · have HG := ac_get 8 (a1 + 8 * i) d 0 (by omega) (by omega) hd
          have hb := rdN_bd d (a1 + 8 * i) 8
          generalize hc : rdN d (a1 + 8 * i) 8 = c at HG hb
          repeat' first | intro h1 | refine st (h := ok_conv_in rfl (show IntKind.u8.min ≤ c by simp [IntKind.min, IntKind.signed]; omega) (show c ≤ IntKind.u8.max by simp [IntKind.max, IntKind.signed, IntKind.bits]; omega)) ?_ | refine st ?_ | refine stMW [0] HG ?_ | refine st (h := ok_makeFunc (by ((repeat (apply ArgsR.cons; rfl)); exact ArgsR.nil)) (by ((repeat (apply ArgsR.cons; rfl)); exact ArgsR.nil))) ?_ | refine stm ?_ | refine Ja ?_ | refine Jb ?_ | refine Jc ?_ | refine Jd ?_ | refine Je ?_ | refine Jf ?_ | refine Jg ?_ | refine Jh ?_ ?_ | refine Ji ?_ ?_ | refine Jj ?_ ?_ | refine run_nil ?_ | refine Jz ?_ | refine Jw ?_ | refine aw_block ?_ | refine Jq ?_ | refine Jr ?_ | refine Js ?_ | refine Jt ?_ | refine Ju ?_ ?_ | refine Jv ?_ ?_ | refine Jy ?_ | refine aw_exit ?_ | refine aw_ret ?_ | refine pp_ret ?_ | refine pp_normal ?_
          refine Exists.intro ⟨i + 1, Z.set i c⟩ ⟨fitsD [0, 1], ⟨hi, ?_⟩, by dsimp only; omega⟩
          dsimp only
          rw [g2, rdB, hc, List.set_append_right _ _ (by rw [rdB_len]; exact Nat.le_refl _), rdB_len, Nat.sub_self, show N - i = (N - (i + 1)) + 1 by omega, List.replicate_succ, List.append_assoc]
          rfl
        · obtain rfl : i = N := by omega
          have hZ : Z = rdB d a1 i := by rw [g2, Nat.sub_self]; simp
          have hbu := bytes_u8 Z (hZ ▸ rdB_rng d a1 i)
          subst t a'
          rw [← hZ]
          repeat' first | intro h1 | refine st (h := ok_bytes_str (l := Z.map b8) rfl rfl (by simp; omega) ((take_full (by simp; omega)).trans hbu)) ?_ | refine st ?_ | refine st (h := ok_makeFunc (by ((repeat (apply ArgsR.cons; rfl)); exact ArgsR.nil)) (by ((repeat (apply ArgsR.cons; rfl)); exact ArgsR.nil))) ?_ | refine stm ?_ | refine Ja ?_ | refine Jb ?_ | refine Jc ?_ | refine Jd ?_ | refine Je ?_ | refine Jf ?_ | refine Jg ?_ | refine Jh ?_ ?_ | refine Ji ?_ ?_ | refine Jj ?_ ?_ | refine run_nil ?_ | refine Jz ?_ | refine Jw ?_ | refine aw_block ?_ | refine Jq ?_ | refine Jr ?_ | refine Js ?_ | refine Jt ?_ | refine Ju ?_ ?_ | refine Jv ?_ ?_ | refine Jy ?_ | refine aw_exit ?_ | refine aw_ret ?_ | refine pp_ret ?_ | refine pp_normal ?_
          exact pm_ret _ (renumD [0]) rfl
  · rw [if_pos he1] at hst
    simp only [Prod.mk.injEq] at hst
    obtain ⟨rfl, rfl, rfl⟩ := hst
    refine acalls_of_aw Tryz.func132 rfl rfl ?_
    repeat' first | intro h1 | refine st ?_ | refine st_call (ac_limit m) ?_ | refine st_call (HW) ?_ | refine stMW [0] HF ?_ | refine st (h := ok_makeFunc (by ((repeat (apply ArgsR.cons; rfl)); exact ArgsR.nil)) (by ((repeat (apply ArgsR.cons; rfl)); exact ArgsR.nil))) ?_ | refine stm ?_ | refine Ja ?_ | refine Jb ?_ | refine Jc ?_ | refine Jd ?_ | refine Je ?_ | refine Jf ?_ | refine Jg ?_ | refine Jh ?_ ?_ | refine Ji ?_ ?_ | refine Jj ?_ ?_ | refine run_nil ?_ | refine Jz ?_ | refine Jw ?_ | refine aw_block ?_ | refine Jq ?_ | refine Jr ?_ | refine Js ?_ | refine Jt ?_ | refine Ju ?_ ?_ | refine Jv ?_ ?_ | refine Jy ?_ | refine aw_exit ?_ | refine aw_ret ?_ | refine pp_ret ?_ | refine pp_normal ?_
    all_goals first | exact pm_ret _ (renumD [0]) rfl | (exfalso; omega)
/-- What a reader's Close returns. -/
def closeR (d : ByteArray) (a : Nat) (e : Int) : Int := if e ≠ 0 then e else if 8 ≤ 8 * d.size - a ∨ rdN d a (8 * d.size - a) ≠ 0 then 10 else 0
theorem ac_close1 (a : Nat) (d : ByteArray) (ha : a ≤ 8 * d.size) (hlt : 8 * d.size - a < 8) (hd : d.size ≤ 1000000) : ACalls Tryz.prog 148 [.pointer (some ⟨0, 0, none⟩)] [some ⟨[.pointer (some ⟨1, 0, none⟩)], false, 1⟩, some ⟨[.string d, .int .i64 (a : Int), .int .i64 0], false, 1⟩] (.bool (decide (¬ rdN d a (8 * d.size - a) = 0))) [none, none] := by
  have HL := ac_left a d (by omega) hd
  have HG := ac_get (8 * d.size - a) a d 0 (by omega) (by omega) hd
  rw [show ((8 * d.size - a : Nat) : Int) = 8 * (d.size : Int) - a by omega] at HG
  refine acalls_law Tryz.func148 rfl rfl rfl ?_
  repeat' first | intro h1 | refine st ?_ | refine stRW [1] HL ?_ | refine stMW [2] HG ?_ | refine stm ?_ | refine Ja ?_ | refine Jb ?_ | refine Jc ?_ | refine Jd ?_ | refine Je ?_ | refine Jf ?_ | refine Jg ?_ | refine Jh ?_ ?_ | refine Ji ?_ ?_ | refine Jj ?_ ?_ | refine run_nil ?_ | refine Jz ?_ | refine Jw ?_ | refine aw_block ?_ | refine Jq ?_ | refine Jr ?_ | refine Js ?_ | refine Jt ?_ | refine Ju ?_ ?_ | refine Jv ?_ ?_ | refine Jy ?_ | refine aw_exit ?_ | refine aw_ret ?_ | refine pp_ret ?_ | refine pp_normal ?_
  all_goals first | rfl | (exfalso; omega)
theorem ac_closeR (e c : Int) (a : Nat) (d : ByteArray) (hst : closeR d a e = c) (ha : a ≤ 8 * d.size) (hd : d.size ≤ 1000000) : ACalls Tryz.prog 99 [.pointer (some ⟨0, 0, none⟩)] [some ⟨[.string d, .int .i64 (a : Int), .int .i64 e], false, 1⟩] (.int .i64 c) [none] := by
  unfold closeR at hst
  by_cases he : e = 0
  · subst he
    rw [if_neg (by simp)] at hst
    have HL := ac_left a d (by omega) hd
    by_cases h8 : 8 ≤ 8 * d.size - a
    · rw [if_pos (.inl h8)] at hst
      subst hst
      refine acalls_law Tryz.func99 rfl rfl rfl ?_
      repeat' first | intro h1 | refine st ?_ | refine stRW [0] HL ?_ | refine st (h := ok_makeFunc (by ((repeat (apply ArgsR.cons; rfl)); exact ArgsR.nil)) (by ((repeat (apply ArgsR.cons; rfl)); exact ArgsR.nil))) ?_ | refine stm ?_ | refine Ja ?_ | refine Jb ?_ | refine Jc ?_ | refine Jd ?_ | refine Je ?_ | refine Jf ?_ | refine Jg ?_ | refine Jh ?_ ?_ | refine Ji ?_ ?_ | refine Jj ?_ ?_ | refine run_nil ?_ | refine Jz ?_ | refine Jw ?_ | refine aw_block ?_ | refine Jq ?_ | refine Jr ?_ | refine Js ?_ | refine Jt ?_ | refine Ju ?_ ?_ | refine Jv ?_ ?_ | refine Jy ?_ | refine aw_exit ?_ | refine aw_ret ?_ | refine pp_ret ?_ | refine pp_normal ?_
      all_goals first | rfl | (exfalso; omega)
    · have HO := ac_close1 a d ha (by omega) hd
      by_cases hr : rdN d a (8 * d.size - a) = 0
      · rw [if_neg (by rintro (h | h); exact h8 h; exact h hr)] at hst
        subst hst
        rw [hr, show decide (¬ (0 : Int) = 0) = false from rfl] at HO
        refine acalls_law Tryz.func99 rfl rfl rfl ?_
        repeat' first | intro h1 | refine st ?_ | refine stRW [0] HL ?_ | refine stRW [1, 0] HO ?_ | refine st (h := ok_makeFunc (by ((repeat (apply ArgsR.cons; rfl)); exact ArgsR.nil)) (by ((repeat (apply ArgsR.cons; rfl)); exact ArgsR.nil))) ?_ | refine stm ?_ | refine Ja ?_ | refine Jb ?_ | refine Jc ?_ | refine Jd ?_ | refine Je ?_ | refine Jf ?_ | refine Jg ?_ | refine Jh ?_ ?_ | refine Ji ?_ ?_ | refine Jj ?_ ?_ | refine run_nil ?_ | refine Jz ?_ | refine Jw ?_ | refine aw_block ?_ | refine Jq ?_ | refine Jr ?_ | refine Js ?_ | refine Jt ?_ | refine Ju ?_ ?_ | refine Jv ?_ ?_ | refine Jy ?_ | refine aw_exit ?_ | refine aw_ret ?_ | refine pp_ret ?_ | refine pp_normal ?_
        all_goals first | rfl | (exfalso; omega)
      · rw [if_pos (.inr hr)] at hst
        subst hst
        rw [decide_eq_true hr] at HO
        refine acalls_law Tryz.func99 rfl rfl rfl ?_
        repeat' first | intro h1 | refine st ?_ | refine stRW [0] HL ?_ | refine stRW [1, 0] HO ?_ | refine st (h := ok_makeFunc (by ((repeat (apply ArgsR.cons; rfl)); exact ArgsR.nil)) (by ((repeat (apply ArgsR.cons; rfl)); exact ArgsR.nil))) ?_ | refine stm ?_ | refine Ja ?_ | refine Jb ?_ | refine Jc ?_ | refine Jd ?_ | refine Je ?_ | refine Jf ?_ | refine Jg ?_ | refine Jh ?_ ?_ | refine Ji ?_ ?_ | refine Jj ?_ ?_ | refine run_nil ?_ | refine Jz ?_ | refine Jw ?_ | refine aw_block ?_ | refine Jq ?_ | refine Jr ?_ | refine Js ?_ | refine Jt ?_ | refine Ju ?_ ?_ | refine Jv ?_ ?_ | refine Jy ?_ | refine aw_exit ?_ | refine aw_ret ?_ | refine pp_ret ?_ | refine pp_normal ?_
        all_goals first | rfl | (exfalso; omega)
  · rw [if_pos he] at hst
    subst hst
    refine acalls_law Tryz.func99 rfl rfl rfl ?_
    repeat' first | intro h1 | refine st ?_ | refine st (h := ok_makeFunc (by ((repeat (apply ArgsR.cons; rfl)); exact ArgsR.nil)) (by ((repeat (apply ArgsR.cons; rfl)); exact ArgsR.nil))) ?_ | refine stm ?_ | refine Ja ?_ | refine Jb ?_ | refine Jc ?_ | refine Jd ?_ | refine Je ?_ | refine Jf ?_ | refine Jg ?_ | refine Jh ?_ ?_ | refine Ji ?_ ?_ | refine Jj ?_ ?_ | refine run_nil ?_ | refine Jz ?_ | refine Jw ?_ | refine aw_block ?_ | refine Jq ?_ | refine Jr ?_ | refine Js ?_ | refine Jt ?_ | refine Ju ?_ ?_ | refine Jv ?_ ?_ | refine Jy ?_ | refine aw_exit ?_ | refine aw_ret ?_ | refine pp_ret ?_ | refine pp_normal ?_
    all_goals first | rfl | (exfalso; omega)
/-- A string of packed bits. -/
def pkB (bs : List Int) : ByteArray := ⟨((pack bs).map b8).toArray⟩
theorem bitsOf_01 : ∀ (w : Nat) (x : Int), ∀ b ∈ bitsOf w x, b = 0 ∨ b = 1
  | 0, _, b, h => by cases h
  | w + 1, x, b, h => by
    rw [bitsOf, List.mem_cons] at h
    rcases h with rfl | h
    · omega
    · exact bitsOf_01 w x b h
/-- What a writer does with a number that fits. -/
theorem unsW_ok {bs bs' : List Int} {w x : Int} (h : 1 ≤ w ∧ w ≤ 63) (hx : 0 ≤ x ∧ x < 2 ^ w.toNat) (hl : bs.length + w ≤ 524288) (hb : bs ++ bitsOf w.toNat x = bs') : unsW bs 0 w x = (bs', 0) := by
  unfold unsW fieldW
  rw [if_neg (by simp), if_neg (by simp [h]), if_neg (by simp [hx]), if_neg (by omega), hb]
theorem bd63 {w x : Int} (h : 1 ≤ w ∧ w ≤ 63) (hx : 0 ≤ x ∧ x < 2 ^ w.toNat) : -9223372036854775808 ≤ x ∧ x ≤ 9223372036854775807 := by
  have : (2 : Int) ^ w.toNat ≤ 2 ^ 63 := by
    have := Nat.pow_le_pow_right (show 0 < 2 by decide) (show w.toNat ≤ 63 by omega)
    exact_mod_cast this
  have e : (2 : Int) ^ 63 = 9223372036854775808 := by decide
  omega
end Go.Proofs.YtdbcbclapipgdaaGreatDoor
