/- Join: bytes written. -/
import Derived.Test.YtdbcbclapipgdaaGreatDoorVO
import Derived.Test.YtdbcbclapipgdaaGreatDoorJ
import Derived.Test.YtdbcbclapipgdaaGreatDoorC10
set_option linter.unusedVariables false
set_option linter.unusedSimpArgs false
namespace Go.Proofs.YtdbcbclapipgdaaGreatDoor
open Go Av
set_option maxRecDepth 20000
theorem ok_neqJ {P : Program} {ρ : Operand → Option Value} {m : Mem} {dd : Option Tmp} {t : TypeId} {pp : String} {af : Array Edge} {g : Option (Nat × Bool)} {xt yt : TypeId} {x y : Operand} {k : IntKind} {a b : Int} {c : Bool} (hx : ρ x = some (.int k a)) (hy : ρ y = some (.int k b)) (h : decide (a ≠ b) = c) : OpOK P ⟨dd, .binOp .neq xt x y yt, t, pp, af, g⟩ ρ m (.bool c) m := by
  subst h
  exact ok_neq hx hy
/-- The bits of a request (an = false), or of an answer. -/
def joB (nm : ByteArray) (no : Int) (an : Bool) (nd : Int) (cd : ByteArray) : List Int :=
  bitsOf 1 (if an = true then 1 else 0) ++ (bitsOf 6 nm.size ++ strBits nm nm.size) ++ bitsOf 31 no ++ (if an = true then bitsOf 5 nd else []) ++ strBits cd 8
theorem wd32 : wdth 32 = 6 := by decide +kernel
theorem joB_01 (nm : ByteArray) (no : Int) (an : Bool) (nd : Int) (cd : ByteArray) : ∀ b ∈ joB nm no an nd cd, b = 0 ∨ b = 1 := fun b hb => by
  unfold joB at hb
  simp only [List.mem_append] at hb
  rcases hb with (((hb | hb | hb) | hb) | hb) | hb
  · exact bitsOf_01 _ _ b hb
  · exact bitsOf_01 _ _ b hb
  · exact strBits_01 _ _ b hb
  · exact bitsOf_01 _ _ b hb
  · split at hb
    · exact bitsOf_01 _ _ b hb
    · simp at hb
  · exact strBits_01 _ _ b hb
structure Ej where
  i : Nat
  bs : List Int
set_option maxHeartbeats 8000000 in
theorem ac_jencA (nm cd : ByteArray) (no : Int) (h1 : nm.size ≤ 32) (h2 : 0 ≤ no ∧ no ≤ 2147483647) (h4 : cd.size = 8) : ACalls Tryz.prog 89 [.agg #[.string nm, .int .i64 no, .int .i64 (-1), .string cd]] [] (.tuple #[.string (pkB (joB nm no false 0 cd)), .int .i64 0]) [] := by
  obtain ⟨b0, hb0⟩ : ∃ z : List Int, [] = z := ⟨_, rfl⟩
  have lb0 : b0.length = 0 := by rw [← hb0]; rfl
  have C0 := ac_newW0 b0 hb0
  obtain ⟨b1, hb1⟩ : ∃ z, b0 ++ bitsOf 1 (if false = true then 1 else 0) = z := ⟨_, rfl⟩
  have lb1 : b1.length = 1 := by rw [← hb1, List.length_append, bitsOf_len, lb0]
  have C1 := ac_flag0 false b0 b1 (by omega) hb1
  obtain ⟨b2, hb2⟩ : ∃ z, b1 ++ bitsOf (wdth 32).toNat nm.size ++ strBits nm nm.size = z := ⟨_, rfl⟩
  have lb2 : b2.length = 7 + 8 * nm.size := by rw [← hb2, List.length_append, List.length_append, bitsOf_len, strBits_len, lb1, wd32]; rfl
  have C2 := ac_text0 32 nm b1 b2 (by decide) (by omega) (by rw [wd32]; omega) hb2
  obtain ⟨b3, hb3⟩ : ∃ z, b2 ++ bitsOf 31 no = z := ⟨_, rfl⟩
  have lb3 : b3.length = b2.length + 31 := by rw [← hb3, List.length_append, bitsOf_len]
  have C3 := ac_uns0 31 no b2 b3 (by decide) (by rw [show ((2 : Int) ^ (31 : Int).toNat) = 2147483648 from rfl]; omega) (by omega) hb3
  have hm : joB nm no false 0 cd = b3 ++ strBits cd 8 := by
    unfold joB
    rw [if_neg (by decide), if_neg (by decide), ← hb3, ← hb2, ← hb1, ← hb0, wd32]
    simp only [List.append_assoc, List.nil_append, List.append_nil]
    rfl
  have h01 := joB_01 nm no false 0 cd
  rw [hm] at h01 ⊢
  clear hm hb3 hb2 hb1 hb0
  obtain ⟨res, hres⟩ : ∃ res, pkB (b3 ++ strBits cd 8) = res := ⟨_, rfl⟩
  rw [hres]
  refine acalls_law Tryz.func89 rfl rfl rfl ?_
  repeat' first | intro h1 | intro h1 | refine st (v := .bool false) (h := ok_neqJ rfl rfl (by first | rfl | exact decide_eq_true (by omega))) ?_ | refine sd (v := .bool false) (h := ok_neqJ rfl rfl (by first | rfl | exact decide_eq_true (by omega))) ?_ | refine st ?_ | refine stMW [] C0 ?_ | refine stMW [1, 2] C1 ?_ | refine stMW [1, 3] C2 ?_ | refine stMW [1, 4] C3 ?_ | refine stm ?_ | refine Ja ?_ | refine Jb ?_ | refine Jc ?_ | refine Jd ?_ | refine Je ?_ | refine Jf ?_ | refine Jg ?_ | refine Jh ?_ ?_ | refine Ji ?_ ?_ | refine Jj ?_ ?_ | refine run_nil ?_ | refine Jz ?_ | refine Jw ?_ | refine aw_block ?_ | refine Jq ?_ | refine Jr ?_ | refine Js ?_ | refine Jt ?_ | refine Ju ?_ ?_ | refine Jv ?_ ?_ | refine Jy ?_ | refine aw_exit ?_ | refine aw_ret ?_ | refine pp_ret ?_ | refine pp_normal ?_
  all_goals try (exfalso; omega)
  refine aw_loopg
    (S := fun y : Ej => [(1, .pointer (some ⟨0, 0, none⟩)), (4, .pointer (some ⟨1, 0, none⟩)), (29, .int .i64 cd.size), (30, .int .i64 y.i)])
    (B := fun y : Ej => [some ⟨[.string nm, .int .i64 no, .int .i64 (-1), .string cd], true, 1⟩, some ⟨[.slice (some ⟨2, 0, none⟩) (pack y.bs).length (pack y.bs).length, .int .i64 (y.bs.length : Int), .int .i64 0], true, 1⟩, some ⟨List.map (Value.int .u8) (pack y.bs), true, 1⟩])
    (R := fun y : Ej => y.i ≤ 8 ∧ b3 ++ strBits cd y.i = y.bs)
    (μ := fun y : Ej => 8 - y.i) ⟨0, b3⟩ (fitsD [0, 1, 5]) ⟨Nat.zero_le _, by simp [strBits]⟩ ?_
  rintro ⟨i, bs⟩ ⟨g1, g2⟩
  dsimp only at g1 g2 ⊢
  have lbs : bs.length = b3.length + 8 * i := by rw [← g2, List.length_append, strBits_len]
  by_cases hi : i < 8
  · have hbt := UInt8.toNat_lt (byteAt cd i)
    obtain ⟨bs', hbs'⟩ : ∃ z, bs ++ bitsOf 8 ((byteAt cd i).toNat : Int) = z := ⟨_, rfl⟩
    have hst : b3 ++ strBits cd (i + 1) = bs' := by
      rw [← hbs', ← g2, List.append_assoc]
      rfl
    have C9 := ac_uns0 8 ((byteAt cd i).toNat : Int) bs bs' (by decide) (by rw [show ((2 : Int) ^ (8 : Int).toNat) = 256 from rfl]; omega) (by omega) hbs'
    repeat' first | intro h1 | intro h1 | refine st ?_ | refine stMW [1, 2] C9 ?_ | refine stm ?_ | refine Ja ?_ | refine Jb ?_ | refine Jc ?_ | refine Jd ?_ | refine Je ?_ | refine Jf ?_ | refine Jg ?_ | refine Jh ?_ ?_ | refine Ji ?_ ?_ | refine Jj ?_ ?_ | refine run_nil ?_ | refine Jz ?_ | refine Jw ?_ | refine aw_block ?_ | refine Jq ?_ | refine Jr ?_ | refine Js ?_ | refine Jt ?_ | refine Ju ?_ ?_ | refine Jv ?_ ?_ | refine Jy ?_ | refine aw_exit ?_ | refine aw_ret ?_ | refine pp_ret ?_ | refine pp_normal ?_
    all_goals first | exact Exists.intro ⟨i + 1, bs'⟩ ⟨fitsD [0, 1, 3], ⟨hi, hst⟩, by dsimp only; omega⟩ | (exfalso; omega)
  · obtain rfl : i = 8 := by omega
    have CBy := ac_bytes0 bs
    rw [← g2, hres] at CBy
    rw [g2] at CBy
    repeat' first | intro h1 | intro h1 | refine st ?_ | refine stRW [1, 2] CBy ?_ | refine stm ?_ | refine Ja ?_ | refine Jb ?_ | refine Jc ?_ | refine Jd ?_ | refine Je ?_ | refine Jf ?_ | refine Jg ?_ | refine Jh ?_ ?_ | refine Ji ?_ ?_ | refine Jj ?_ ?_ | refine run_nil ?_ | refine Jz ?_ | refine Jw ?_ | refine aw_block ?_ | refine Jq ?_ | refine Jr ?_ | refine Js ?_ | refine Jt ?_ | refine Ju ?_ ?_ | refine Jv ?_ ?_ | refine Jy ?_ | refine aw_exit ?_ | refine aw_ret ?_ | refine pp_ret ?_ | refine pp_normal ?_
    all_goals first
      | rfl
      | (exfalso; omega)
      | (simp [retOf]; done)
      | (exfalso; simp_all; done)
      | (exfalso; simp only [Bool.not_eq_true', Bool.not_eq_false', decide_eq_true_eq, decide_eq_false_iff_not, Bool.not_false, Bool.not_true] at *; omega)
set_option maxHeartbeats 8000000 in
theorem ac_jencB (nm cd : ByteArray) (no : Int) (nd : Int) (h3 : 1 ≤ nd ∧ nd ≤ 31) (h1 : nm.size ≤ 32) (h2 : 0 ≤ no ∧ no ≤ 2147483647) (h4 : cd.size = 8) : ACalls Tryz.prog 89 [.agg #[.string nm, .int .i64 no, .int .i64 nd, .string cd]] [] (.tuple #[.string (pkB (joB nm no true nd cd)), .int .i64 0]) [] := by
  obtain ⟨b0, hb0⟩ : ∃ z : List Int, [] = z := ⟨_, rfl⟩
  have lb0 : b0.length = 0 := by rw [← hb0]; rfl
  have C0 := ac_newW0 b0 hb0
  obtain ⟨b1, hb1⟩ : ∃ z, b0 ++ bitsOf 1 (if true = true then 1 else 0) = z := ⟨_, rfl⟩
  have lb1 : b1.length = 1 := by rw [← hb1, List.length_append, bitsOf_len, lb0]
  have C1 := ac_flag0 true b0 b1 (by omega) hb1
  obtain ⟨b2, hb2⟩ : ∃ z, b1 ++ bitsOf (wdth 32).toNat nm.size ++ strBits nm nm.size = z := ⟨_, rfl⟩
  have lb2 : b2.length = 7 + 8 * nm.size := by rw [← hb2, List.length_append, List.length_append, bitsOf_len, strBits_len, lb1, wd32]; rfl
  have C2 := ac_text0 32 nm b1 b2 (by decide) (by omega) (by rw [wd32]; omega) hb2
  obtain ⟨b3, hb3⟩ : ∃ z, b2 ++ bitsOf 31 no = z := ⟨_, rfl⟩
  have lb3 : b3.length = b2.length + 31 := by rw [← hb3, List.length_append, bitsOf_len]
  have C3 := ac_uns0 31 no b2 b3 (by decide) (by rw [show ((2 : Int) ^ (31 : Int).toNat) = 2147483648 from rfl]; omega) (by omega) hb3
  obtain ⟨b4, hb4⟩ : ∃ z, b3 ++ bitsOf 5 nd = z := ⟨_, rfl⟩
  have lb4 : b4.length = b3.length + 5 := by rw [← hb4, List.length_append, bitsOf_len]
  have C4 := ac_uns0 5 nd b3 b4 (by decide) (by rw [show ((2 : Int) ^ (5 : Int).toNat) = 32 from rfl]; omega) (by omega) hb4
  have hm : joB nm no true nd cd = b4 ++ strBits cd 8 := by
    unfold joB
    rw [if_pos rfl, if_pos rfl, ← hb4, ← hb3, ← hb2, ← hb1, ← hb0, wd32]
    simp only [List.append_assoc, List.nil_append, List.append_nil]
    rfl
  have h01 := joB_01 nm no true nd cd
  rw [hm] at h01 ⊢
  clear hm hb3 hb2 hb1 hb0 hb4
  obtain ⟨res, hres⟩ : ∃ res, pkB (b4 ++ strBits cd 8) = res := ⟨_, rfl⟩
  rw [hres]
  refine acalls_law Tryz.func89 rfl rfl rfl ?_
  repeat' first | intro h1 | intro h1 | refine st (v := .bool true) (h := ok_neqJ rfl rfl (by first | rfl | exact decide_eq_true (by omega))) ?_ | refine sd (v := .bool true) (h := ok_neqJ rfl rfl (by first | rfl | exact decide_eq_true (by omega))) ?_ | refine st ?_ | refine stMW [] C0 ?_ | refine stMW [1, 2] C1 ?_ | refine stMW [1, 3] C2 ?_ | refine stMW [1, 4] C3 ?_ | refine stMW [1, 5] C4 ?_ | refine stm ?_ | refine Ja ?_ | refine Jb ?_ | refine Jc ?_ | refine Jd ?_ | refine Je ?_ | refine Jf ?_ | refine Jg ?_ | refine Jh ?_ ?_ | refine Ji ?_ ?_ | refine Jj ?_ ?_ | refine run_nil ?_ | refine Jz ?_ | refine Jw ?_ | refine aw_block ?_ | refine Jq ?_ | refine Jr ?_ | refine Js ?_ | refine Jt ?_ | refine Ju ?_ ?_ | refine Jv ?_ ?_ | refine Jy ?_ | refine aw_exit ?_ | refine aw_ret ?_ | refine pp_ret ?_ | refine pp_normal ?_
  all_goals try (exfalso; omega)
  refine aw_loopg
    (S := fun y : Ej => [(1, .pointer (some ⟨0, 0, none⟩)), (4, .pointer (some ⟨1, 0, none⟩)), (29, .int .i64 cd.size), (30, .int .i64 y.i)])
    (B := fun y : Ej => [some ⟨[.string nm, .int .i64 no, .int .i64 nd, .string cd], true, 1⟩, some ⟨[.slice (some ⟨2, 0, none⟩) (pack y.bs).length (pack y.bs).length, .int .i64 (y.bs.length : Int), .int .i64 0], true, 1⟩, some ⟨List.map (Value.int .u8) (pack y.bs), true, 1⟩])
    (R := fun y : Ej => y.i ≤ 8 ∧ b4 ++ strBits cd y.i = y.bs)
    (μ := fun y : Ej => 8 - y.i) ⟨0, b4⟩ (fitsD [0, 1, 6]) ⟨Nat.zero_le _, by simp [strBits]⟩ ?_
  rintro ⟨i, bs⟩ ⟨g1, g2⟩
  dsimp only at g1 g2 ⊢
  have lbs : bs.length = b4.length + 8 * i := by rw [← g2, List.length_append, strBits_len]
  by_cases hi : i < 8
  · have hbt := UInt8.toNat_lt (byteAt cd i)
    obtain ⟨bs', hbs'⟩ : ∃ z, bs ++ bitsOf 8 ((byteAt cd i).toNat : Int) = z := ⟨_, rfl⟩
    have hst : b4 ++ strBits cd (i + 1) = bs' := by
      rw [← hbs', ← g2, List.append_assoc]
      rfl
    have C9 := ac_uns0 8 ((byteAt cd i).toNat : Int) bs bs' (by decide) (by rw [show ((2 : Int) ^ (8 : Int).toNat) = 256 from rfl]; omega) (by omega) hbs'
    repeat' first | intro h1 | intro h1 | refine st ?_ | refine stMW [1, 2] C9 ?_ | refine stm ?_ | refine Ja ?_ | refine Jb ?_ | refine Jc ?_ | refine Jd ?_ | refine Je ?_ | refine Jf ?_ | refine Jg ?_ | refine Jh ?_ ?_ | refine Ji ?_ ?_ | refine Jj ?_ ?_ | refine run_nil ?_ | refine Jz ?_ | refine Jw ?_ | refine aw_block ?_ | refine Jq ?_ | refine Jr ?_ | refine Js ?_ | refine Jt ?_ | refine Ju ?_ ?_ | refine Jv ?_ ?_ | refine Jy ?_ | refine aw_exit ?_ | refine aw_ret ?_ | refine pp_ret ?_ | refine pp_normal ?_
    all_goals first | exact Exists.intro ⟨i + 1, bs'⟩ ⟨fitsD [0, 1, 3], ⟨hi, hst⟩, by dsimp only; omega⟩ | (exfalso; omega)
  · obtain rfl : i = 8 := by omega
    have CBy := ac_bytes0 bs
    rw [← g2, hres] at CBy
    rw [g2] at CBy
    repeat' first | intro h1 | intro h1 | refine st ?_ | refine stRW [1, 2] CBy ?_ | refine stm ?_ | refine Ja ?_ | refine Jb ?_ | refine Jc ?_ | refine Jd ?_ | refine Je ?_ | refine Jf ?_ | refine Jg ?_ | refine Jh ?_ ?_ | refine Ji ?_ ?_ | refine Jj ?_ ?_ | refine run_nil ?_ | refine Jz ?_ | refine Jw ?_ | refine aw_block ?_ | refine Jq ?_ | refine Jr ?_ | refine Js ?_ | refine Jt ?_ | refine Ju ?_ ?_ | refine Jv ?_ ?_ | refine Jy ?_ | refine aw_exit ?_ | refine aw_ret ?_ | refine pp_ret ?_ | refine pp_normal ?_
    all_goals first
      | rfl
      | (exfalso; omega)
      | (simp [retOf]; done)
      | (exfalso; simp_all; done)
      | (exfalso; simp only [Bool.not_eq_true', Bool.not_eq_false', decide_eq_true_eq, decide_eq_false_iff_not, Bool.not_false, Bool.not_true] at *; omega)
end Go.Proofs.YtdbcbclapipgdaaGreatDoor
