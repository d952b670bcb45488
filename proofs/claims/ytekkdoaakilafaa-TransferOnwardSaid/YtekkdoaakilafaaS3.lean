/- Image: numbers, digests of pages. -/
import Derived.Test.YtekkdoaakilafaaVL
import Derived.Test.YtekkdoaakilafaaS2
import Derived.Test.YtekkdoaakilafaaNB
import Derived.Test.YtekkdoaakilafaaD8
import Derived.Test.YtekkdoaakilafaaD10
set_option linter.unusedVariables false
set_option linter.unusedSimpArgs false
namespace Go.Proofs.Ytekkdoaakilafaa
open Go Av
set_option maxRecDepth 20000
def beS (k : Nat) (v : Int) : ByteArray := ⟨(beL k v).toArray⟩
theorem beS_size (k : Nat) (v : Int) : (beS k v).size = k := by show (beL k v).toArray.size = k; simp [beL_len]
theorem be_u8 (r : Nat) (j : Int) (v : Int) (hr : r ≤ 7) (hj : j + 1 = ((r + 1 : Nat) : Int)) : Value.int .u8 (IntKind.u8.wrap (v / 2 ^ (min (8 * j).toNat IntKind.i64.bits))) = u8v (UInt8.ofNat (v / 2 ^ (8 * r) % 256).toNat) := by
  have e : min (8 * j).toNat IntKind.i64.bits = 8 * r := by simp [IntKind.bits]; omega
  rw [e, u8v, be_byte]
structure Bg where
  m : Nat
  j : Int
  L : List UInt8
set_option maxHeartbeats 1000000 in
theorem ac_bytes (k : Nat) (hk : k ≤ 8) (v : Int) : ACalls Try.prog 98 [.int .i64 v, .int .i64 k] [] (.string (beS k v)) [] := by
  refine acalls_law Try.func98 rfl rfl rfl ?_
  refine aw_ghost 1 rfl ?_
  repeat' first | intro h1 | refine st ?_ | refine stm ?_ | refine Ja ?_ | refine Jb ?_ | refine Jc ?_ | refine Jd ?_ | refine Je ?_ | refine Jf ?_ | refine Jg ?_ | refine Jh ?_ ?_ | refine Ji ?_ ?_ | refine Jj ?_ ?_ | refine run_nil ?_ | refine Jz ?_ | refine Jw ?_ | refine aw_block ?_ | refine Jq ?_ | refine Jr ?_ | refine Js ?_ | refine Jt ?_ | refine Ju ?_ ?_ | refine Jv ?_ ?_ | refine Jy ?_ | refine aw_exit ?_ | refine aw_ret ?_ | refine pp_ret ?_ | refine pp_normal ?_
  refine aw_loopg
    (S := fun y : Bg => [(0, .int .i64 v), (5, .slice (some ⟨0, 0, none⟩) y.L.length y.L.length), (6, .int .i64 y.j)])
    (B := fun y : Bg => [some ⟨List.map u8v y.L, true, 1⟩])
    (R := fun y : Bg => y.m ≤ k ∧ y.L ++ beL y.m v = beL k v ∧ y.j + 1 = y.m)
    (μ := fun y : Bg => y.m) ⟨k, k - 1, []⟩ (fitsD [0]) ⟨Nat.le_refl _, rfl, by dsimp only; omega⟩ ?_
  rintro ⟨m, j, L⟩ ⟨g1, g2, g3⟩
  dsimp only at *
  have hl : L.length + m = k := by
    have := congrArg List.length g2
    rwa [List.length_append, beL_len, beL_len] at this
  cases m with
  | zero =>
    obtain rfl : L = beL k v := by rw [← g2]; simp [beL]
    repeat' first | intro h1 | refine st (h := ok_bytes_str (l := beL k v) rfl rfl (by simp) (by rw [List.drop_zero, List.take_of_length_le (by simp)])) ?_ | refine st ?_ | refine stm ?_ | refine Ja ?_ | refine Jb ?_ | refine Jc ?_ | refine Jd ?_ | refine Je ?_ | refine Jf ?_ | refine Jg ?_ | refine Jh ?_ ?_ | refine Ji ?_ ?_ | refine Jj ?_ ?_ | refine run_nil ?_ | refine Jz ?_ | refine Jw ?_ | refine aw_block ?_ | refine Jq ?_ | refine Jr ?_ | refine Js ?_ | refine Jt ?_ | refine Ju ?_ ?_ | refine Jv ?_ ?_ | refine Jy ?_ | refine aw_exit ?_ | refine aw_ret ?_ | refine pp_ret ?_ | refine pp_normal ?_
    all_goals first
      | rfl
      | (exfalso; omega)
      | (exfalso; simp only [Bool.not_eq_true', Bool.not_eq_false', decide_eq_true_eq, decide_eq_false_iff_not, Bool.not_false, Bool.not_true] at *; omega)
      | (exfalso; simp_all; first | done | omega)
  | succ r =>
    have hu := be_u8 r j v (by omega) g3
    repeat' first | intro h1 | refine stm ?_ (h := by (apply ok_append (cs := List.map u8v (L ++ [UInt8.ofNat (v / 2 ^ (8 * r) % 256).toNat])) (olds := List.map u8v L); rfl; rfl; rfl; rfl; rfl; rfl; (focus first | (apply Src.slc; rfl; exact Ty.eq; rfl; exact Nat.le_of_ble_eq_true rfl; exact TakeR.eq (by ((repeat constructor); first | done | fail)); rfl; rfl; first | done | fail)); (focus simp); (focus (apply take_full; simp)); (rw [List.map_append]; exact congrArg (fun q => List.map u8v L ++ [q]) hu); omega; (focus ((repeat constructor); first | done | fail)))) | refine st ?_ | refine stm ?_ | refine Ja ?_ | refine Jb ?_ | refine Jc ?_ | refine Jd ?_ | refine Je ?_ | refine Jf ?_ | refine Jg ?_ | refine Jh ?_ ?_ | refine Ji ?_ ?_ | refine Jj ?_ ?_ | refine run_nil ?_ | refine Jz ?_ | refine Jw ?_ | refine aw_block ?_ | refine Jq ?_ | refine Jr ?_ | refine Js ?_ | refine Jt ?_ | refine Ju ?_ ?_ | refine Jv ?_ ?_ | refine Jy ?_ | refine aw_exit ?_ | refine aw_ret ?_ | refine pp_ret ?_ | refine pp_normal ?_
    all_goals first | exact Exists.intro ⟨r, _, L ++ [UInt8.ofNat (v / 2 ^ (8 * r) % 256).toNat]⟩ ⟨by
      rw [List.length_append]; exact fitsD [2] , ⟨by dsimp only; omega, by dsimp only; rw [← g2, beL]; simp, by dsimp only; omega⟩, by dsimp only; omega⟩ | (exfalso; omega)
/-- The number that bytes are. -/
def valB (s : ByteArray) : Nat → Int
  | 0 => 0
  | i + 1 => valB s i * 256 + (byteAt s i).toNat
def valS (s : ByteArray) : Int := valB s s.size
theorem valB_bd (s : ByteArray) : ∀ i, 0 ≤ valB s i ∧ valB s i < 256 ^ i
  | 0 => by simp [valB]
  | i + 1 => by
    have h := valB_bd s i
    have hb := (byteAt s i).toNat_lt
    rw [valB, Int.pow_succ]
    omega
theorem or_byte {A b : Int} (hA : 0 ≤ A ∧ A * 256 ≤ 4611686018427387904) (hb : 0 ≤ b ∧ b < 256) : bitv .or .i64 (IntKind.i64.wrap (A * 2 ^ (min (Int.toNat 8) IntKind.i64.bits))) (IntKind.i64.wrap b) = A * 256 + b := by
  rw [wrap64 (n := b) (by omega)]
  have h0 : A * 2 ^ (min (Int.toNat 8) IntKind.i64.bits) = A * 256 := rfl
  rw [h0, wrap64 (by omega)]
  have h : ((BitVec.ofInt 64 (A * 256) ||| BitVec.ofInt 64 b).toNat : Int) = A * 256 + b := by
    have e1 : (BitVec.ofInt 64 (A * 256)).toNat = (A * 256).toNat := by rw [BitVec.toNat_ofInt]; omega
    have e2 : (BitVec.ofInt 64 b).toNat = b.toNat := by rw [BitVec.toNat_ofInt]; omega
    rw [BitVec.toNat_or, e1, e2]
    obtain ⟨q, hq⟩ : ∃ q, (A * 256).toNat = q <<< 8 := ⟨A.toNat, by rw [Nat.shiftLeft_eq]; omega⟩
    rw [hq, ← Nat.shiftLeft_add_eq_or_of_lt (by omega : b.toNat < 2 ^ 8), ← hq]
    omega
  show IntKind.i64.wrap ((BitVec.ofInt 64 (A * 256) ||| BitVec.ofInt 64 b).toNat : Int) = _
  rw [h]
  exact wrap64 (by omega)
structure Vg where
  i : Nat
  v : Int
set_option maxHeartbeats 1000000 in
theorem ac_value (s : ByteArray) (h : s.size ≤ 7) (x : Int) (hx : valS s = x) : ACalls Try.prog 89 [.string s] [] (.int .i64 x) [] := by
  unfold valS at hx
  refine acalls_pure Try.func89 rfl rfl rfl ?_
  repeat' first | intro h1 | refine st ?_ | refine stm ?_ | refine Ja ?_ | refine Jb ?_ | refine Jc ?_ | refine Jd ?_ | refine Je ?_ | refine Jf ?_ | refine Jg ?_ | refine Jh ?_ ?_ | refine Ji ?_ ?_ | refine Jj ?_ ?_ | refine run_nil ?_ | refine Jz ?_ | refine Jw ?_ | refine aw_block ?_ | refine Jq ?_ | refine Jr ?_ | refine Js ?_ | refine Jt ?_ | refine Ju ?_ ?_ | refine Jv ?_ ?_ | refine Jy ?_ | refine aw_exit ?_ | refine aw_ret ?_ | refine pp_ret ?_ | refine pp_normal ?_
  refine aw_loopg
    (S := fun y : Vg => [(0, .string s), (3, .int .i64 y.v), (6, .int .i64 (s.size : Int)), (7, .int .i64 y.i)])
    (B := fun _ : Vg => [])
    (R := fun y : Vg => y.i ≤ s.size ∧ valB s y.i = y.v)
    (μ := fun y : Vg => s.size - y.i) ⟨0, 0⟩ (fitsD []) ⟨Nat.zero_le _, rfl⟩ ?_
  rintro ⟨i, v⟩ ⟨g1, g2⟩
  dsimp only at *
  have hv := valB_bd s i
  rw [g2] at hv
  by_cases hi : i < s.size
  · have hp : (256 : Int) ^ i ≤ 256 ^ 6 := by
      have := Nat.pow_le_pow_right (n := 256) (by omega) (show i ≤ 6 by omega)
      have e : ((256 ^ i : Nat) : Int) = (256 : Int) ^ i := by simp
      omega
    have hb := (byteAt s (i : Int).toNat).toNat_lt
    have ho := or_byte (A := v) (b := ((byteAt s (i : Int).toNat).toNat : Int)) ⟨hv.1, by omega⟩ (by omega)
    repeat' first | intro h1 | refine st ?_ | refine stm ?_ | refine Ja ?_ | refine Jb ?_ | refine Jc ?_ | refine Jd ?_ | refine Je ?_ | refine Jf ?_ | refine Jg ?_ | refine Jh ?_ ?_ | refine Ji ?_ ?_ | refine Jj ?_ ?_ | refine run_nil ?_ | refine Jz ?_ | refine Jw ?_ | refine aw_block ?_ | refine Jq ?_ | refine Jr ?_ | refine Js ?_ | refine Jt ?_ | refine Ju ?_ ?_ | refine Jv ?_ ?_ | refine Jy ?_ | refine aw_exit ?_ | refine aw_ret ?_ | refine pp_ret ?_ | refine pp_normal ?_
    all_goals first | exact Exists.intro ⟨i + 1, _⟩ ⟨fitsD [], ⟨hi, by dsimp only; rw [valB, g2]; exact ho.symm⟩, by dsimp only; omega⟩ | (exfalso; omega)
  · obtain rfl : i = s.size := by omega
    obtain rfl : x = v := by rw [← hx, g2]
    repeat' first | intro h1 | refine st ?_ | refine stm ?_ | refine Ja ?_ | refine Jb ?_ | refine Jc ?_ | refine Jd ?_ | refine Je ?_ | refine Jf ?_ | refine Jg ?_ | refine Jh ?_ ?_ | refine Ji ?_ ?_ | refine Jj ?_ ?_ | refine run_nil ?_ | refine Jz ?_ | refine Jw ?_ | refine aw_block ?_ | refine Jq ?_ | refine Jr ?_ | refine Js ?_ | refine Jt ?_ | refine Ju ?_ ?_ | refine Jv ?_ ?_ | refine Jy ?_ | refine aw_exit ?_ | refine aw_ret ?_ | refine pp_ret ?_ | refine pp_normal ?_
    all_goals first
      | rfl
      | (exfalso; omega)
      | (exfalso; simp only [Bool.not_eq_true', Bool.not_eq_false', decide_eq_true_eq, decide_eq_false_iff_not, Bool.not_false, Bool.not_true] at *; omega)
      | (exfalso; simp_all; first | done | omega)
/-- The digest of a page. -/
def pgB (v p : Int) (d : ByteArray) : ByteArray := ⟨#[112, 97, 103, 101]⟩ ++ numS [(2, v), (2, p)] ++ d
def dgS (v p : Int) (d : ByteArray) : ByteArray := dig 0 (pgB v p d).data.toList
theorem numS_size2 (v p : Int) : (numS [(2, v), (2, p)]).size = 4 := by show (numL [(2, v), (2, p)]).toArray.size = 4; simp [numL, beL_len]
theorem pgB_size (v p : Int) (d : ByteArray) : (pgB v p d).size = 8 + d.size := by
  unfold pgB
  rw [ByteArray.size_append, ByteArray.size_append, numS_size2]
  rfl
theorem pgB_ref (v p : Int) (d : ByteArray) : (⟨#[112, 97, 103, 101]⟩ : ByteArray) ++ beS 2 v ++ beS 2 p ++ d = pgB v p d := by
  unfold pgB
  apply ByteArray.ext
  simp [ByteArray.data_append, beS, numS, numL]
theorem ac_isum (v p : Int) (d : ByteArray) (hd : d.size ≤ 1000000) (S : ByteArray) (hS : dgS v p d = S) : ACalls Try.prog 47 [.int .i64 v, .int .i64 p, .string d] [] (.string S) [] := by
  have H1 := ac_number2 v p
  have hs1 := numS_size2 v p
  have hs2 := pgB_size v p d
  unfold dgS at hS
  have H2 := ac_Sum (pgB v p d) (by omega)
  rw [hS] at H2
  unfold pgB at H2
  clear hS
  generalize numS [(2, v), (2, p)] = q at H1 H2 hs1
  refine acalls_law Try.func47 rfl rfl rfl ?_
  repeat' first | intro h1 | refine st (h := ok_str_add rfl rfl (by (simp only [ByteArray.size_append, hs1]; first | omega | (show 4 + _ ≤ _; omega) | (show 4 + _ + _ ≤ _; omega)))) ?_ | refine sd (h := ok_str_add rfl rfl (by (simp only [ByteArray.size_append, hs1]; first | omega | (show 4 + _ ≤ _; omega) | (show 4 + _ + _ ≤ _; omega)))) ?_ | refine st ?_ | refine stRW [0] H1 ?_ | refine st_call (H2) ?_ | refine sd_call (H2) ?_ | refine stm ?_ | refine Ja ?_ | refine Jb ?_ | refine Jc ?_ | refine Jd ?_ | refine Je ?_ | refine Jf ?_ | refine Jg ?_ | refine Jh ?_ ?_ | refine Ji ?_ ?_ | refine Jj ?_ ?_ | refine run_nil ?_ | refine Jz ?_ | refine Jw ?_ | refine aw_block ?_ | refine Jq ?_ | refine Jr ?_ | refine Js ?_ | refine Jt ?_ | refine Ju ?_ ?_ | refine Jv ?_ ?_ | refine Jy ?_ | refine aw_exit ?_ | refine aw_ret ?_ | refine pp_ret ?_ | refine pp_normal ?_
  all_goals first
    | rfl
    | (exfalso; omega)
    | (exfalso; simp only [Bool.not_eq_true', Bool.not_eq_false', decide_eq_true_eq, decide_eq_false_iff_not, Bool.not_false, Bool.not_true] at *; omega)
    | (exfalso; simp_all; first | done | omega)
theorem ac_rdigest (v p : Int) (d : ByteArray) (hd : d.size ≤ 1000000) (S : ByteArray) (hS : dgS v p d = S) : ACalls Try.prog 102 [.int .i64 v, .int .i64 p, .string d] [] (.string S) [] := by
  have H1 := ac_bytes 2 (by omega) v
  have H2 := ac_bytes 2 (by omega) p
  have hs1 := beS_size 2 v
  have hs3 := beS_size 2 p
  have hs2 := pgB_size v p d
  unfold dgS at hS
  have H3 := ac_rSum (pgB v p d) (by omega)
  rw [hS, ← pgB_ref] at H3
  clear hS
  generalize beS 2 v = q at H1 H3 hs1
  generalize beS 2 p = q2 at H2 H3 hs3
  refine acalls_law Try.func102 rfl rfl rfl ?_
  repeat' first | intro h1 | refine st (h := ok_str_add rfl rfl (by (simp only [ByteArray.size_append, hs1, hs3]; first | omega | (show 4 + _ ≤ _; omega) | (show 4 + _ + _ ≤ _; omega) | (show 4 + _ + _ + _ ≤ _; omega)))) ?_ | refine sd (h := ok_str_add rfl rfl (by (simp only [ByteArray.size_append, hs1, hs3]; first | omega | (show 4 + _ ≤ _; omega) | (show 4 + _ + _ ≤ _; omega) | (show 4 + _ + _ + _ ≤ _; omega)))) ?_ | refine st ?_ | refine st_call (H1) ?_ | refine st_call (H2) ?_ | refine st_call (H3) ?_ | refine sd_call (H1) ?_ | refine sd_call (H2) ?_ | refine sd_call (H3) ?_ | refine stm ?_ | refine Ja ?_ | refine Jb ?_ | refine Jc ?_ | refine Jd ?_ | refine Je ?_ | refine Jf ?_ | refine Jg ?_ | refine Jh ?_ ?_ | refine Ji ?_ ?_ | refine Jj ?_ ?_ | refine run_nil ?_ | refine Jz ?_ | refine Jw ?_ | refine aw_block ?_ | refine Jq ?_ | refine Jr ?_ | refine Js ?_ | refine Jt ?_ | refine Ju ?_ ?_ | refine Jv ?_ ?_ | refine Jy ?_ | refine aw_exit ?_ | refine aw_ret ?_ | refine pp_ret ?_ | refine pp_normal ?_
  all_goals first
    | rfl
    | (exfalso; omega)
    | (exfalso; simp only [Bool.not_eq_true', Bool.not_eq_false', decide_eq_true_eq, decide_eq_false_iff_not, Bool.not_false, Bool.not_true] at *; omega)
    | (exfalso; simp_all; first | done | omega)
end Go.Proofs.Ytekkdoaakilafaa
