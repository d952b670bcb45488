/- Join: the open beacon; Join: the chapter's example; Join: bytes written; Join: bytes read; Join: requests and answers, written and read. -/
import Derived.Test.YtdbcbclapipgdaaGreatDoorVO
import Derived.Test.YtdbcbclapipgdaaGreatDoorJ
import Derived.Test.YtdbcbclapipgdaaGreatDoorC9
import Derived.Test.YtdbcbclapipgdaaGreatDoorC10
set_option linter.unusedVariables false
set_option linter.unusedSimpArgs false
namespace Go.Proofs.YtdbcbclapipgdaaGreatDoor
open Go Av
set_option maxRecDepth 20000
/-- The data of the open beacon. -/
def opD : ByteArray := pkB (ofB 0 true .empty 0 0 0 [])
theorem opD_size : opD.size ≤ 1000 := Nat.le_of_ble_eq_true (by kernel_rfl)
theorem opD_read : readO true opD = ((0, true, .empty, 0, 0, 0, []), 0) := by kernel_rfl
theorem pu_ch : ∀ (sj pa ep nd no tr si : Int), (decide ((0 ≤ ep ∧ ep ≤ 65535) ∧ (0 ≤ no ∧ no ≤ 2147483647) ∧ (0 ≤ si ∧ si ≤ 109951162) ∧ 0 ≤ tr ∧ tr ≤ 4) && stB sj pa ep nd no tr si) = true → chJ ⟨#[112, 117, 109, 112]⟩ ⟨#[115]⟩ sj pa ep nd no tr si = true := fun sj pa ep nd no tr si h => by
  unfold chJ
  rw [h, show nmB ⟨#[112, 117, 109, 112]⟩ = true by kernel_rfl, show scB ⟨#[115]⟩ = true by kernel_rfl]
  rfl
theorem pu_nm : nmB ⟨#[112, 117, 109, 112]⟩ = true := by kernel_rfl
theorem pu_ak : akB ⟨#[112, 117, 109, 112]⟩ 1 (acS ⟨#[115]⟩ ⟨#[112, 117, 109, 112]⟩ 1) = true := by
  unfold akB
  rw [pu_nm, decide_eq_true ⟨by decide, acS_size _ _ _⟩]
  rfl
theorem ok_neqJ {P : Program} {ρ : Operand → Option Value} {m : Mem} {dd : Option Tmp} {t : TypeId} {pp : String} {af : Array Edge} {g : Option (Nat × Bool)} {xt yt : TypeId} {x y : Operand} {k : IntKind} {a b : Int} {c : Bool} (hx : ρ x = some (.int k a)) (hy : ρ y = some (.int k b)) (h : decide (a ≠ b) = c) : OpOK P ⟨dd, .binOp .neq xt x y yt, t, pp, af, g⟩ ρ m (.bool c) m := by
  subst h
  exact ok_neq hx hy
/-- The bits of a request (an = false), or of an answer. -/
def joB (nm : ByteArray) (no : Int) (an : Bool) (nd : Int) (cd : ByteArray) : List Int :=
  bitsOf 1 (if an = true then 1 else 0) ++ (bitsOf 6 nm.size ++ strBits nm nm.size) ++ bitsOf 31 no ++ (if an = true then bitsOf 5 nd else []) ++ strBits cd 8
theorem wd32 : wdth 32 = 6 := by decide +kernel
theorem joB_01 (nm : ByteArray) (no : Int) (an : Bool) (nd : Int) (cd : ByteArray) : ∀ b ∈ joB nm no an nd cd, b = 0 ∨ b = 1 := fun b hb => by
  unfold joB at hb
  simp only [List.mem_append] at hb
  rcases hb with (((hb | hb | hb) | hb) | hb) | hb
  · exact bitsOf_01 _ _ b hb
  · exact bitsOf_01 _ _ b hb
  · exact strBits_01 _ _ b hb
  · exact bitsOf_01 _ _ b hb
  · split at hb
    · exact bitsOf_01 _ _ b hb
    · simp at hb
  · exact strBits_01 _ _ b hb
structure Ej where
  i : Nat
  bs : List Int
set_option maxHeartbeats 8000000 in
theorem ac_jencA (nm cd : ByteArray) (no : Int) (h1 : nm.size ≤ 32) (h2 : 0 ≤ no ∧ no ≤ 2147483647) (h4 : cd.size = 8) : ACalls Tryz.prog 89 [.agg #[.string nm, .int .i64 no, .int .i64 (-1), .string cd]] [] (.tuple #[.string (pkB (joB nm no false 0 cd)), .int .i64 0]) [] := by
  obtain ⟨b0, hb0⟩ : ∃ z : List Int, [] = z := ⟨_, rfl⟩
  have lb0 : b0.length = 0 := by rw [← hb0]; rfl
  have C0 := ac_newW0 b0 hb0
  obtain ⟨b1, hb1⟩ : ∃ z, b0 ++ bitsOf 1 (if false = true then 1 else 0) = z := ⟨_, rfl⟩
  have lb1 : b1.length = 1 := by rw [← hb1, List.length_append, bitsOf_len, lb0]
  have C1 := ac_flag0 false b0 b1 (by omega) hb1
  obtain ⟨b2, hb2⟩ : ∃ z, b1 ++ bitsOf (wdth 32).toNat nm.size ++ strBits nm nm.size = z := ⟨_, rfl⟩
  have lb2 : b2.length = 7 + 8 * nm.size := by rw [← hb2, List.length_append, List.length_append, bitsOf_len, strBits_len, lb1, wd32]; rfl
  have C2 := ac_text0 32 nm b1 b2 (by decide) (by omega) (by rw [wd32]; omega) hb2
  obtain ⟨b3, hb3⟩ : ∃ z, b2 ++ bitsOf 31 no = z := ⟨_, rfl⟩
  have lb3 : b3.length = b2.length + 31 := by rw [← hb3, List.length_append, bitsOf_len]
  have C3 := ac_uns0 31 no b2 b3 (by decide) (by rw [show ((2 : Int) ^ (31 : Int).toNat) = 2147483648 from rfl]; omega) (by omega) hb3
  have hm : joB nm no false 0 cd = b3 ++ strBits cd 8 := by
    unfold joB
    rw [if_neg (by decide), if_neg (by decide), ← hb3, ← hb2, ← hb1, ← hb0, wd32]
    simp only [List.append_assoc, List.nil_append, List.append_nil]
    rfl
  have h01 := joB_01 nm no false 0 cd
  rw [hm] at h01 ⊢
  clear hm hb3 hb2 hb1 hb0
  obtain ⟨res, hres⟩ : ∃ res, pkB (b3 ++ strBits cd 8) = res := ⟨_, rfl⟩
  rw [hres]
  refine acalls_law Tryz.func89 rfl rfl rfl ?_
  repeat' first | refine st (v := .bool false) (h := ok_neqJ rfl rfl (by first | rfl | exact decide_eq_true (by omega))) ?_ | refine st ?_ | refine stMW [] C0 ?_ | refine stMW [1, 2] C1 ?_ | refine stMW [1, 3] C2 ?_ | refine stMW [1, 4] C3 ?_ | refine stm ?_ | refine run_nil ?_ | refine Jz ?_ | refine Jw ?_ | refine aw_block ?_ | refine Jr ?_ | refine Jy ?_
  all_goals try (exfalso; omega)
  refine aw_loopg
    (S := fun y : Ej => [(1, .pointer (some ⟨0, 0, none⟩)), (4, .pointer (some ⟨1, 0, none⟩)), (29, .int .i64 cd.size), (30, .int .i64 y.i)])
    (B := fun y : Ej => [some ⟨[.string nm, .int .i64 no, .int .i64 (-1), .string cd], true, 1⟩, some ⟨[.slice (some ⟨2, 0, none⟩) (pack y.bs).length (pack y.bs).length, .int .i64 (y.bs.length : Int), .int .i64 0], true, 1⟩, some ⟨List.map (Value.int .u8) (pack y.bs), true, 1⟩])
    (R := fun y : Ej => y.i ≤ 8 ∧ b3 ++ strBits cd y.i = y.bs)
    (μ := fun y : Ej => 8 - y.i) ⟨0, b3⟩ (fitsD [0, 1, 5]) ⟨Nat.zero_le _, by simp [strBits]⟩ ?_
  rintro ⟨i, bs⟩ ⟨g1, g2⟩
  dsimp only at g1 g2 ⊢
  have lbs : bs.length = b3.length + 8 * i := by rw [← g2, List.length_append, strBits_len]
  by_cases hi : i < 8
  · have hbt := UInt8.toNat_lt (byteAt cd i)
    obtain ⟨bs', hbs'⟩ : ∃ z, bs ++ bitsOf 8 ((byteAt cd i).toNat : Int) = z := ⟨_, rfl⟩
    have hst : b3 ++ strBits cd (i + 1) = bs' := by
      rw [← hbs', ← g2, List.append_assoc]
      rfl
    have C9 := ac_uns0 8 ((byteAt cd i).toNat : Int) bs bs' (by decide) (by rw [show ((2 : Int) ^ (8 : Int).toNat) = 256 from rfl]; omega) (by omega) hbs'
    repeat' first | refine st ?_ | refine stMW [1, 2] C9 ?_ | refine run_nil ?_ | refine Jz ?_ | refine Jw ?_ | refine aw_block ?_ | refine Js ?_ | refine Jy ?_
    all_goals first | exact Exists.intro ⟨i + 1, bs'⟩ ⟨fitsD [0, 1, 3], ⟨hi, hst⟩, by dsimp only; omega⟩
  · obtain rfl : i = 8 := by omega
    have CBy := ac_bytes0 bs
    rw [← g2, hres] at CBy
    rw [g2] at CBy
    repeat' first | refine st ?_ | refine stRW [1, 2] CBy ?_ | refine run_nil ?_ | refine Jz ?_ | refine Jw ?_ | refine Jt ?_ | refine aw_exit ?_ | refine aw_ret ?_ | refine pp_ret ?_
    all_goals first
      | rfl
      | (exfalso; omega)
      | (simp [retOf]; done)
      | (exfalso; simp_all; done)
      | (exfalso; simp only [Bool.not_eq_true', Bool.not_eq_false', decide_eq_true_eq, decide_eq_false_iff_not, Bool.not_false, Bool.not_true] at *; omega)
set_option maxHeartbeats 8000000 in
theorem ac_jencB (nm cd : ByteArray) (no : Int) (nd : Int) (h3 : 1 ≤ nd ∧ nd ≤ 31) (h1 : nm.size ≤ 32) (h2 : 0 ≤ no ∧ no ≤ 2147483647) (h4 : cd.size = 8) : ACalls Tryz.prog 89 [.agg #[.string nm, .int .i64 no, .int .i64 nd, .string cd]] [] (.tuple #[.string (pkB (joB nm no true nd cd)), .int .i64 0]) [] := by
  obtain ⟨b0, hb0⟩ : ∃ z : List Int, [] = z := ⟨_, rfl⟩
  have lb0 : b0.length = 0 := by rw [← hb0]; rfl
  have C0 := ac_newW0 b0 hb0
  obtain ⟨b1, hb1⟩ : ∃ z, b0 ++ bitsOf 1 (if true = true then 1 else 0) = z := ⟨_, rfl⟩
  have lb1 : b1.length = 1 := by rw [← hb1, List.length_append, bitsOf_len, lb0]
  have C1 := ac_flag0 true b0 b1 (by omega) hb1
  obtain ⟨b2, hb2⟩ : ∃ z, b1 ++ bitsOf (wdth 32).toNat nm.size ++ strBits nm nm.size = z := ⟨_, rfl⟩
  have lb2 : b2.length = 7 + 8 * nm.size := by rw [← hb2, List.length_append, List.length_append, bitsOf_len, strBits_len, lb1, wd32]; rfl
  have C2 := ac_text0 32 nm b1 b2 (by decide) (by omega) (by rw [wd32]; omega) hb2
  obtain ⟨b3, hb3⟩ : ∃ z, b2 ++ bitsOf 31 no = z := ⟨_, rfl⟩
  have lb3 : b3.length = b2.length + 31 := by rw [← hb3, List.length_append, bitsOf_len]
  have C3 := ac_uns0 31 no b2 b3 (by decide) (by rw [show ((2 : Int) ^ (31 : Int).toNat) = 2147483648 from rfl]; omega) (by omega) hb3
  obtain ⟨b4, hb4⟩ : ∃ z, b3 ++ bitsOf 5 nd = z := ⟨_, rfl⟩
  have lb4 : b4.length = b3.length + 5 := by rw [← hb4, List.length_append, bitsOf_len]
  have C4 := ac_uns0 5 nd b3 b4 (by decide) (by rw [show ((2 : Int) ^ (5 : Int).toNat) = 32 from rfl]; omega) (by omega) hb4
  have hm : joB nm no true nd cd = b4 ++ strBits cd 8 := by
    unfold joB
    rw [if_pos rfl, if_pos rfl, ← hb4, ← hb3, ← hb2, ← hb1, ← hb0, wd32]
    simp only [List.append_assoc, List.nil_append, List.append_nil]
    rfl
  have h01 := joB_01 nm no true nd cd
  rw [hm] at h01 ⊢
  clear hm hb3 hb2 hb1 hb0 hb4
  obtain ⟨res, hres⟩ : ∃ res, pkB (b4 ++ strBits cd 8) = res := ⟨_, rfl⟩
  rw [hres]
  refine acalls_law Tryz.func89 rfl rfl rfl ?_
  repeat' first | refine st (v := .bool true) (h := ok_neqJ rfl rfl (by first | rfl | exact decide_eq_true (by omega))) ?_ | refine st ?_ | refine stMW [] C0 ?_ | refine stMW [1, 2] C1 ?_ | refine stMW [1, 3] C2 ?_ | refine stMW [1, 4] C3 ?_ | refine stMW [1, 5] C4 ?_ | refine stm ?_ | refine run_nil ?_ | refine Jz ?_ | refine Jw ?_ | refine aw_block ?_ | refine Jq ?_
  all_goals try (exfalso; omega)
  refine aw_loopg
    (S := fun y : Ej => [(1, .pointer (some ⟨0, 0, none⟩)), (4, .pointer (some ⟨1, 0, none⟩)), (29, .int .i64 cd.size), (30, .int .i64 y.i)])
    (B := fun y : Ej => [some ⟨[.string nm, .int .i64 no, .int .i64 nd, .string cd], true, 1⟩, some ⟨[.slice (some ⟨2, 0, none⟩) (pack y.bs).length (pack y.bs).length, .int .i64 (y.bs.length : Int), .int .i64 0], true, 1⟩, some ⟨List.map (Value.int .u8) (pack y.bs), true, 1⟩])
    (R := fun y : Ej => y.i ≤ 8 ∧ b4 ++ strBits cd y.i = y.bs)
    (μ := fun y : Ej => 8 - y.i) ⟨0, b4⟩ (fitsD [0, 1, 6]) ⟨Nat.zero_le _, by simp [strBits]⟩ ?_
  rintro ⟨i, bs⟩ ⟨g1, g2⟩
  dsimp only at g1 g2 ⊢
  have lbs : bs.length = b4.length + 8 * i := by rw [← g2, List.length_append, strBits_len]
  by_cases hi : i < 8
  · have hbt := UInt8.toNat_lt (byteAt cd i)
    obtain ⟨bs', hbs'⟩ : ∃ z, bs ++ bitsOf 8 ((byteAt cd i).toNat : Int) = z := ⟨_, rfl⟩
    have hst : b4 ++ strBits cd (i + 1) = bs' := by
      rw [← hbs', ← g2, List.append_assoc]
      rfl
    have C9 := ac_uns0 8 ((byteAt cd i).toNat : Int) bs bs' (by decide) (by rw [show ((2 : Int) ^ (8 : Int).toNat) = 256 from rfl]; omega) (by omega) hbs'
    repeat' first | refine st ?_ | refine stMW [1, 2] C9 ?_ | refine run_nil ?_ | refine Jz ?_ | refine Jw ?_ | refine aw_block ?_ | refine Js ?_ | refine Jy ?_
    all_goals first | exact Exists.intro ⟨i + 1, bs'⟩ ⟨fitsD [0, 1, 3], ⟨hi, hst⟩, by dsimp only; omega⟩
  · obtain rfl : i = 8 := by omega
    have CBy := ac_bytes0 bs
    rw [← g2, hres] at CBy
    rw [g2] at CBy
    repeat' first | refine st ?_ | refine stRW [1, 2] CBy ?_ | refine run_nil ?_ | refine Jz ?_ | refine Jw ?_ | refine Jt ?_ | refine aw_exit ?_ | refine aw_ret ?_ | refine pp_ret ?_
    all_goals first
      | rfl
      | (exfalso; omega)
      | (simp [retOf]; done)
      | (exfalso; simp_all; done)
      | (exfalso; simp only [Bool.not_eq_true', Bool.not_eq_false', decide_eq_true_eq, decide_eq_false_iff_not, Bool.not_false, Bool.not_true] at *; omega)
/-- So many bytes of a code, read. -/
def cdR (d : ByteArray) (a : Nat) (e : Int) : Nat → List Int × Nat × Int
  | 0 => ([], a, e)
  | k + 1 => ((cdR d a e k).1 ++ [(unsR d (cdR d a e k).2.1 (cdR d a e k).2.2 8).1], (unsR d (cdR d a e k).2.1 (cdR d a e k).2.2 8).2)
theorem cdR_succ {d : ByteArray} {a a0 a1 : Nat} {e e0 e1 v1 : Int} {k : Nat} {L : List Int} (h : cdR d a e k = (L, a0, e0)) (h1 : unsR d a0 e0 8 = (v1, a1, e1)) : cdR d a e (k + 1) = (L ++ [v1], a1, e1) := by
  rw [cdR, h]
  dsimp only
  rw [h1]
theorem cdR_rng {d : ByteArray} {a a' : Nat} {e e' : Int} {k : Nat} {L : List Int} (h : cdR d a e k = (L, a', e')) : ∀ z ∈ L, 0 ≤ z ∧ z < 256 := by
  induction k generalizing L a' e' with
  | zero =>
    simp only [cdR, Prod.mk.injEq] at h
    intro z hz
    rw [← h.1] at hz
    cases hz
  | succ k ih =>
    obtain ⟨L0, a0, e0, h0⟩ : ∃ x y z, cdR d a e k = (x, y, z) := ⟨_, _, _, rfl⟩
    obtain ⟨v1, a1, e1, h1⟩ : ∃ x y z, unsR d a0 e0 8 = (x, y, z) := ⟨_, _, _, rfl⟩
    rw [cdR_succ h0 h1] at h
    simp only [Prod.mk.injEq] at h
    obtain ⟨rfl, _⟩ := h
    intro z hz
    rcases List.mem_append.1 hz with hz | hz
    · exact ih h0 z hz
    · rw [List.mem_singleton] at hz
      subst hz
      have := unsR_rng h1 (by decide)
      rwa [show ((2 : Int) ^ (8 : Int).toNat) = 256 from rfl] at this
structure Cj where
  i : Nat
  L : List Int
  a : Nat
  e : Int
  d2 : ByteArray
  a2 : Int
set_option maxHeartbeats 16000000 in
theorem ac_jdecA (d : ByteArray) (hd : d.size ≤ 1000) (a1 a2 a3 a5 : Nat) (e1 e2 e3 e5 no c : Int) (t : ByteArray) (L : List Int) (h1 : flgR d 0 0 = (false, a1, e1)) (h2 : txtR d a1 e1 32 = (t, a2, e2)) (h3 : unsR d a2 e2 31 = (no, a3, e3)) (h5 : cdR d a3 e3 8 = (L, a5, e5)) (hc : closeR d a5 e5 = c) : ACalls Tryz.prog 91 [.string d] [] (.tuple #[.agg #[.string t, .int .i64 no, .int .i64 (-1), .string ⟨(L.map b8).toArray⟩], .bool (decide (c = 0))]) [] := by
  have l1 := flgR_le h1 (Nat.zero_le _)
  have l2 := txtR_le h2 l1 (by decide)
  have l3 := unsR_le h3 l2 (by decide)
  have C0 := ac_newR d (by omega)
  have C1 := ac_flgR 0 e1 false 0 a1 d h1 (Nat.zero_le _) (by omega)
  have C2 := ac_txtR 32 e1 e2 t a1 a2 d h2 l1 (by omega) (by decide)
  have C3 := ac_unsR 31 e2 e3 no a2 a3 d h3 l2 (by omega) (by decide)
  refine acalls_law Tryz.func91 rfl rfl rfl ?_
  refine aw_ghost 1 rfl ?_
  repeat' first | refine st ?_ | refine stMW [] C0 ?_ | refine stMW [2] C1 ?_ | refine stMW [2] C2 ?_ | refine stMW [2] C3 ?_ | refine stm ?_ | refine run_nil ?_ | refine Jz ?_ | refine Jw ?_ | refine aw_block ?_ | refine Jr ?_ | refine Jy ?_
  all_goals try (exfalso; omega)
  clear C0 C1 C2 C3
  refine aw_loopg
    (S := fun y : Cj => [(2, .pointer (some ⟨1, 0, none⟩)), (4, .pointer (some ⟨2, 0, none⟩)), (5, .pointer (some ⟨3, 0, none⟩)), (7, .slice (some ⟨0, 0, none⟩) y.i y.i), (23, .int .i64 y.i)])
    (B := fun y : Cj => [some ⟨List.map (Value.int .u8) y.L, true, 1⟩, some ⟨[.string ⟨#[]⟩, .int .i64 0, .int .i64 0, .string ⟨#[]⟩], true, 1⟩, some ⟨[.string d, .int .i64 (y.a : Int), .int .i64 y.e], true, 1⟩, some ⟨[.string t, .int .i64 no, .int .i64 (-1), .string ⟨#[]⟩], true, 1⟩])
    (R := fun y : Cj => y.i ≤ 8 ∧ cdR d a3 e3 y.i = (y.L, y.a, y.e) ∧ y.L.length = y.i ∧ y.a ≤ 8 * d.size)
    (μ := fun y : Cj => 8 - y.i) ⟨0, [], a3, e3, d, 0⟩ (fitsD [0, 1, 2, 3]) ⟨Nat.zero_le _, rfl, rfl, l3⟩ ?_
  rintro ⟨i, Li, ai, ei, d2, ad2⟩ ⟨g1, g2, g3, g4⟩
  dsimp only at *
  by_cases hi : i < 8
  · obtain ⟨v1, a6, e6, h6⟩ : ∃ v z e1, unsR d ai ei 8 = (v, z, e1) := ⟨_, _, _, rfl⟩
    have l6 := unsR_le h6 g4 (by decide)
    have hv := unsR_rng h6 (by decide)
    rw [show ((2 : Int) ^ (8 : Int).toNat) = 256 from rfl] at hv
    have hn := cdR_succ g2 h6
    have C6 := ac_unsR 8 ei e6 v1 ai a6 d h6 g4 (by omega) (by decide)
    repeat' first | refine stm (h := by (apply ok_append (cs := List.map (Value.int .u8) (Li ++ [v1])) (olds := List.map (Value.int .u8) Li); rfl; rfl; rfl; rfl; rfl; rfl; (focus (apply Src.slc; rfl; exact Ty.eq; rfl; exact Nat.le_of_ble_eq_true rfl; exact TakeR.eq (by ((repeat constructor); first | done | fail)); rfl; rfl)); (focus (simp; omega)); (focus (apply take_full; simp; omega)); (focus (rw [List.map_append]; rfl)); omega; (focus ((repeat constructor); first | done | fail)))) ?_ | refine st ?_ | refine stMW [2] C6 ?_ | refine stm ?_ | refine run_nil ?_ | refine Jz ?_ | refine Jw ?_ | refine aw_block ?_ | refine Js ?_ | refine Jy ?_
    all_goals first | exact Exists.intro ⟨i + 1, Li ++ [v1], a6, e6, d, 0⟩ ⟨fitsD [5, 1, 2, 3], ⟨hi, hn, by rw [List.length_append, g3]; rfl, l6⟩, by dsimp only; omega⟩
  · obtain rfl : i = 8 := by omega
    rw [g2] at h5
    simp only [Prod.mk.injEq] at h5
    obtain ⟨rfl, rfl, rfl⟩ := h5
    have hbu := bytes_u8 Li (fun z hz => by have := cdR_rng g2 z hz; omega)
    have CC := ac_closeR ei c ai d hc g4 (by omega)
    clear hc
    repeat' first | refine st (h := ok_bytes_str (l := Li.map b8) rfl rfl (by simp; omega) ((take_full (by simp; omega)).trans hbu)) ?_ | refine st ?_ | refine sdRW [2] CC ?_ | refine stm ?_ | refine run_nil ?_ | refine sd ?_ | refine sdl ?_ | refine sdb ?_ | refine rund_nil ?_ | refine Jz ?_ | refine Jw ?_ | refine Jx (id := 13) [0,0,2,6,7,31] 4 ?_ | refine Jr ?_ | refine aw_exit ?_ | refine aw_ret ?_ | refine pp_ret ?_
    all_goals first
      | rfl
      | (exfalso; omega)
      | (simp [retOf]; done)
      | (exfalso; simp_all; done)
      | (exfalso; simp only [Bool.not_eq_true', Bool.not_eq_false', decide_eq_true_eq, decide_eq_false_iff_not, Bool.not_false, Bool.not_true] at *; omega)
set_option maxHeartbeats 16000000 in
theorem ac_jdecB (d : ByteArray) (hd : d.size ≤ 1000) (a1 a2 a3 a4 a5 : Nat) (e1 e2 e3 e4 e5 no nd c : Int) (t : ByteArray) (L : List Int) (h1 : flgR d 0 0 = (true, a1, e1)) (h2 : txtR d a1 e1 32 = (t, a2, e2)) (h3 : unsR d a2 e2 31 = (no, a3, e3)) (h4 : unsR d a3 e3 5 = (nd, a4, e4)) (h5 : cdR d a4 e4 8 = (L, a5, e5)) (hc : closeR d a5 e5 = c) : ACalls Tryz.prog 91 [.string d] [] (.tuple #[.agg #[.string t, .int .i64 no, .int .i64 nd, .string ⟨(L.map b8).toArray⟩], .bool (decide (c = 0))]) [] := by
  have l1 := flgR_le h1 (Nat.zero_le _)
  have l2 := txtR_le h2 l1 (by decide)
  have l3 := unsR_le h3 l2 (by decide)
  have l4 := unsR_le h4 l3 (by decide)
  have hn4 := unsR_rng h4 (by decide)
  rw [show ((2 : Int) ^ (5 : Int).toNat) = 32 from rfl] at hn4
  have C0 := ac_newR d (by omega)
  have C1 := ac_flgR 0 e1 true 0 a1 d h1 (Nat.zero_le _) (by omega)
  have C2 := ac_txtR 32 e1 e2 t a1 a2 d h2 l1 (by omega) (by decide)
  have C3 := ac_unsR 31 e2 e3 no a2 a3 d h3 l2 (by omega) (by decide)
  have C4 := ac_unsR 5 e3 e4 nd a3 a4 d h4 l3 (by omega) (by decide)
  refine acalls_law Tryz.func91 rfl rfl rfl ?_
  refine aw_ghost 1 rfl ?_
  repeat' first | refine st ?_ | refine stMW [] C0 ?_ | refine stMW [2] C1 ?_ | refine stMW [2] C2 ?_ | refine stMW [2] C3 ?_ | refine stMW [2] C4 ?_ | refine stm ?_ | refine run_nil ?_ | refine Jz ?_ | refine Jw ?_ | refine aw_block ?_ | refine Jq ?_
  all_goals try (exfalso; omega)
  clear C0 C1 C2 C3 C4
  refine aw_loopg
    (S := fun y : Cj => [(2, .pointer (some ⟨1, 0, none⟩)), (4, .pointer (some ⟨2, 0, none⟩)), (5, .pointer (some ⟨3, 0, none⟩)), (7, .slice (some ⟨0, 0, none⟩) y.i y.i), (23, .int .i64 y.i)])
    (B := fun y : Cj => [some ⟨List.map (Value.int .u8) y.L, true, 1⟩, some ⟨[.string ⟨#[]⟩, .int .i64 0, .int .i64 0, .string ⟨#[]⟩], true, 1⟩, some ⟨[.string d, .int .i64 (y.a : Int), .int .i64 y.e], true, 1⟩, some ⟨[.string t, .int .i64 no, .int .i64 nd, .string ⟨#[]⟩], true, 1⟩])
    (R := fun y : Cj => y.i ≤ 8 ∧ cdR d a4 e4 y.i = (y.L, y.a, y.e) ∧ y.L.length = y.i ∧ y.a ≤ 8 * d.size)
    (μ := fun y : Cj => 8 - y.i) ⟨0, [], a4, e4, d, 0⟩ (fitsD [0, 1, 2, 3]) ⟨Nat.zero_le _, rfl, rfl, l4⟩ ?_
  rintro ⟨i, Li, ai, ei, d2, ad2⟩ ⟨g1, g2, g3, g4⟩
  dsimp only at *
  by_cases hi : i < 8
  · obtain ⟨v1, a6, e6, h6⟩ : ∃ v z e1, unsR d ai ei 8 = (v, z, e1) := ⟨_, _, _, rfl⟩
    have l6 := unsR_le h6 g4 (by decide)
    have hv := unsR_rng h6 (by decide)
    rw [show ((2 : Int) ^ (8 : Int).toNat) = 256 from rfl] at hv
    have hn := cdR_succ g2 h6
    have C6 := ac_unsR 8 ei e6 v1 ai a6 d h6 g4 (by omega) (by decide)
    repeat' first | refine stm (h := by (apply ok_append (cs := List.map (Value.int .u8) (Li ++ [v1])) (olds := List.map (Value.int .u8) Li); rfl; rfl; rfl; rfl; rfl; rfl; (focus (apply Src.slc; rfl; exact Ty.eq; rfl; exact Nat.le_of_ble_eq_true rfl; exact TakeR.eq (by ((repeat constructor); first | done | fail)); rfl; rfl)); (focus (simp; omega)); (focus (apply take_full; simp; omega)); (focus (rw [List.map_append]; rfl)); omega; (focus ((repeat constructor); first | done | fail)))) ?_ | refine st ?_ | refine stMW [2] C6 ?_ | refine stm ?_ | refine run_nil ?_ | refine Jz ?_ | refine Jw ?_ | refine aw_block ?_ | refine Js ?_ | refine Jy ?_
    all_goals first | exact Exists.intro ⟨i + 1, Li ++ [v1], a6, e6, d, 0⟩ ⟨fitsD [5, 1, 2, 3], ⟨hi, hn, by rw [List.length_append, g3]; rfl, l6⟩, by dsimp only; omega⟩
  · obtain rfl : i = 8 := by omega
    rw [g2] at h5
    simp only [Prod.mk.injEq] at h5
    obtain ⟨rfl, rfl, rfl⟩ := h5
    have hbu := bytes_u8 Li (fun z hz => by have := cdR_rng g2 z hz; omega)
    have CC := ac_closeR ei c ai d hc g4 (by omega)
    clear hc
    repeat' first | refine st (h := ok_bytes_str (l := Li.map b8) rfl rfl (by simp; omega) ((take_full (by simp; omega)).trans hbu)) ?_ | refine st ?_ | refine sdRW [2] CC ?_ | refine stm ?_ | refine run_nil ?_ | refine sd ?_ | refine sdl ?_ | refine sdb ?_ | refine rund_nil ?_ | refine Jz ?_ | refine Jw ?_ | refine Jx (id := 13) [0,0,2,6,7,31] 4 ?_ | refine Jr ?_ | refine aw_exit ?_ | refine aw_ret ?_ | refine pp_ret ?_
    all_goals first
      | rfl
      | (exfalso; omega)
      | (simp [retOf]; done)
      | (exfalso; simp_all; done)
      | (exfalso; simp only [Bool.not_eq_true', Bool.not_eq_false', decide_eq_true_eq, decide_eq_false_iff_not, Bool.not_false, Bool.not_true] at *; omega)
set_option maxHeartbeats 4000000 in
theorem ac_jEA1 (nm cd : ByteArray) (no : Int) (h : akB nm no cd = true) : ACalls Tryz.prog 41 [.agg #[.string nm, .int .i64 no, .string cd]] [] (.tuple #[.string (pkB (joB nm no false 0 cd)), .int .i64 0]) [] := by
  have HK := ac_asks nm no cd true h
  obtain ⟨g1, g2, g3⟩ := akB_t h
  have g4 := nmB_t g1
  have HE := ac_jencA nm cd no (by omega) (by omega) (by omega)
  obtain ⟨S, hS⟩ : ∃ S, pkB (joB nm no false 0 cd) = S := ⟨_, rfl⟩
  rw [hS] at HE ⊢
  clear hS
  refine acalls_law Tryz.func41 rfl rfl rfl ?_
  repeat' first | refine st ?_ | refine st_call (HK) ?_ | refine st_call (HE) ?_ | refine stm ?_ | refine run_nil ?_ | refine Jz ?_ | refine Jw ?_ | refine Jr ?_ | refine Jy ?_ | refine aw_ret ?_ | refine pp_ret ?_
  all_goals first
    | rfl
    | (exfalso; omega)
    | (simp [retOf]; done)
    | (exfalso; simp_all; done)
    | (exfalso; simp only [Bool.not_eq_true', Bool.not_eq_false', decide_eq_true_eq, decide_eq_false_iff_not, Bool.not_false, Bool.not_true] at *; omega)
set_option maxHeartbeats 4000000 in
theorem ac_jEB1 (nm cd : ByteArray) (no nd : Int) (h : anB nm no nd cd = true) : ACalls Tryz.prog 43 [.agg #[.string nm, .int .i64 no, .int .i64 nd, .string cd]] [] (.tuple #[.string (pkB (joB nm no true nd cd)), .int .i64 0]) [] := by
  have HK := ac_ansF nm no nd cd true h
  obtain ⟨g1, g2, g3⟩ := akB_t (anB_t h).1
  have g4 := nmB_t g1
  have g5 := (anB_t h).2
  have HE := ac_jencB nm cd no nd (by omega) (by omega) (by omega) (by omega)
  obtain ⟨S, hS⟩ : ∃ S, pkB (joB nm no true nd cd) = S := ⟨_, rfl⟩
  rw [hS] at HE ⊢
  clear hS
  refine acalls_law Tryz.func43 rfl rfl rfl ?_
  repeat' first | refine st ?_ | refine st_call (HK) ?_ | refine st_call (HE) ?_ | refine stm ?_ | refine run_nil ?_ | refine Jz ?_ | refine Jw ?_ | refine Jr ?_ | refine Jy ?_ | refine aw_ret ?_ | refine pp_ret ?_
  all_goals first
    | rfl
    | (exfalso; omega)
    | (simp [retOf]; done)
    | (exfalso; simp_all; done)
    | (exfalso; simp only [Bool.not_eq_true', Bool.not_eq_false', decide_eq_true_eq, decide_eq_false_iff_not, Bool.not_false, Bool.not_true] at *; omega)
set_option maxHeartbeats 4000000 in
theorem ac_jDA1 (d : ByteArray) (nm cd : ByteArray) (no nd : Int) (ok k : Bool) (H : ACalls Tryz.prog 91 [.string d] [] (.tuple #[.agg #[.string nm, .int .i64 no, .int .i64 nd, .string cd], .bool ok]) []) (HK : ACalls Tryz.prog 63 [.agg #[.string nm, .int .i64 no, .string cd]] [] (.bool k) []) (h : (ok && (decide (nd = -1) && k)) = true) : ACalls Tryz.prog 45 [.string d] [] (.tuple #[.agg #[.string nm, .int .i64 no, .string cd], .int .i64 0]) [] := by
  obtain ⟨k1, k2⟩ := and_t h
  obtain ⟨k3, k4⟩ := and_t k2
  have k3 := of_decide_eq_true k3
  subst k1 k4
  clear h k2
  refine acalls_law Tryz.func45 rfl rfl rfl ?_
  repeat' first | refine st ?_ | refine st_call (H) ?_ | refine st_call (HK) ?_ | refine stm ?_ | refine Ja ?_ | refine Jf ?_ | refine run_nil ?_ | refine Jz ?_ | refine Jw ?_ | refine Jr ?_ | refine Jy ?_ | refine aw_ret ?_ | refine pp_ret ?_
  all_goals first
    | rfl
    | (exfalso; omega)
    | (simp [retOf]; done)
    | (exfalso; simp_all; done)
    | (exfalso; simp only [Bool.not_eq_true', Bool.not_eq_false', decide_eq_true_eq, decide_eq_false_iff_not, Bool.not_false, Bool.not_true] at *; omega)
set_option maxHeartbeats 4000000 in
theorem ac_jDB1 (d : ByteArray) (nm cd : ByteArray) (no nd : Int) (ok k : Bool) (H : ACalls Tryz.prog 91 [.string d] [] (.tuple #[.agg #[.string nm, .int .i64 no, .int .i64 nd, .string cd], .bool ok]) []) (HK : ACalls Tryz.prog 60 [.agg #[.string nm, .int .i64 no, .int .i64 nd, .string cd]] [] (.bool k) []) (h : (ok && k) = true) : ACalls Tryz.prog 47 [.string d] [] (.tuple #[.agg #[.string nm, .int .i64 no, .int .i64 nd, .string cd], .int .i64 0]) [] := by
  obtain ⟨k1, k2⟩ := and_t h
  subst k1 k2
  clear h
  refine acalls_law Tryz.func47 rfl rfl rfl ?_
  repeat' first | refine st ?_ | refine st_call (H) ?_ | refine st_call (HK) ?_ | refine stm ?_ | refine Ja ?_ | refine run_nil ?_ | refine Jz ?_ | refine Jw ?_ | refine Jr ?_ | refine Jy ?_ | refine aw_ret ?_ | refine pp_ret ?_
  all_goals first
    | rfl
    | (exfalso; omega)
    | (simp [retOf]; done)
    | (exfalso; simp_all; done)
    | (exfalso; simp only [Bool.not_eq_true', Bool.not_eq_false', decide_eq_true_eq, decide_eq_false_iff_not, Bool.not_false, Bool.not_true] at *; omega)
end Go.Proofs.YtdbcbclapipgdaaGreatDoor
