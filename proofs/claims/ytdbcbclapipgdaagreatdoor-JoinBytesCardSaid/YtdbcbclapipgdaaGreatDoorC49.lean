/- Join: bytes written; Join: bytes written (reference); Join: bytes read (reference). -/
import Derived.Test.YtdbcbclapipgdaaGreatDoorVO
import Derived.Test.YtdbcbclapipgdaaGreatDoorJ
import Derived.Test.YtdbcbclapipgdaaGreatDoorC15
import Derived.Test.YtdbcbclapipgdaaGreatDoorC48
import Derived.Test.YtdbcbclapipgdaaGreatDoorC50
set_option linter.unusedVariables false
set_option linter.unusedSimpArgs false
namespace Go.Proofs.YtdbcbclapipgdaaGreatDoor
open Go Av
set_option maxRecDepth 20000
theorem ok_gtrJ {P : Program} {ρ : Operand → Option Value} {m : Mem} {dd : Option Tmp} {t : TypeId} {pp : String} {af : Array Edge} {g : Option (Nat × Bool)} {xt yt : TypeId} {x y : Operand} {k : IntKind} {a b : Int} {c : Bool} (hx : ρ x = some (.int k a)) (hy : ρ y = some (.int k b)) (h : decide (a > b) = c) : OpOK P ⟨dd, .binOp .gtr xt x y yt, t, pp, af, g⟩ ρ m (.bool c) m := by
  subst h
  exact ok_gtr hx hy
set_option maxHeartbeats 8000000 in
theorem ac_rencA (nm cd : ByteArray) (no : Int) (h1 : nm.size ≤ 32) (h2 : 0 ≤ no ∧ no ≤ 2147483647) (h4 : cd.size = 8) : ACalls Tryz.prog 90 [.agg #[.string nm, .int .i64 no, .string cd], .int .i64 0] [] (.tuple #[.string (pkB (joB nm no false 0 cd)), .int .i64 0]) [] := by
  obtain ⟨b0, hb0⟩ : ∃ z : List Int, [] = z := ⟨_, rfl⟩
  have lb0 : b0.length = 0 := by rw [← hb0]; rfl
  have C0 := ac_rnewW0 b0 hb0
  obtain ⟨b1, hb1⟩ : ∃ z, b0 ++ bitsOf 1 (if false = true then 1 else 0) = z := ⟨_, rfl⟩
  have lb1 : b1.length = 1 := by rw [← hb1, List.length_append, bitsOf_len, lb0]
  have C1 := ac_rflag0 false b0 b1 (by omega) hb1
  obtain ⟨b2, hb2⟩ : ∃ z, b1 ++ bitsOf (wdth 32).toNat nm.size ++ strBits nm nm.size = z := ⟨_, rfl⟩
  have lb2 : b2.length = 7 + 8 * nm.size := by rw [← hb2, List.length_append, List.length_append, bitsOf_len, strBits_len, lb1, wd32]; rfl
  have C2 := ac_rtext0 32 nm b1 b2 (by decide) (by omega) (by rw [wd32]; omega) hb2
  obtain ⟨b3, hb3⟩ : ∃ z, b2 ++ bitsOf 31 no = z := ⟨_, rfl⟩
  have lb3 : b3.length = b2.length + 31 := by rw [← hb3, List.length_append, bitsOf_len]
  have C3 := ac_runs0 31 no b2 b3 (by decide) (by rw [show ((2 : Int) ^ (31 : Int).toNat) = 2147483648 from rfl]; omega) (by omega) hb3
  have hm : joB nm no false 0 cd = b3 ++ strBits cd 8 := by
    unfold joB
    rw [if_neg (by decide), if_neg (by decide), ← hb3, ← hb2, ← hb1, ← hb0, wd32]
    simp only [List.append_assoc, List.nil_append, List.append_nil]
    rfl
  have h01 := joB_01 nm no false 0 cd
  rw [hm] at h01 ⊢
  clear hm hb3 hb2 hb1 hb0
  obtain ⟨res, hres⟩ : ∃ res, pkB (b3 ++ strBits cd 8) = res := ⟨_, rfl⟩
  rw [hres]
  refine acalls_law Tryz.func90 rfl rfl rfl ?_
  repeat' first | intro h1 | intro h1 | refine st (v := .bool false) (h := ok_gtrJ rfl rfl (by first | rfl | exact decide_eq_true (by omega))) ?_ | refine sd (v := .bool false) (h := ok_gtrJ rfl rfl (by first | rfl | exact decide_eq_true (by omega))) ?_ | refine st ?_ | refine stMW [] C0 ?_ | refine stMW [1, 2] C1 ?_ | refine stMW [1, 3] C2 ?_ | refine stMW [1, 4] C3 ?_ | refine stm ?_ | refine Ja ?_ | refine Jb ?_ | refine Jc ?_ | refine Jd ?_ | refine Je ?_ | refine Jf ?_ | refine Jg ?_ | refine Jh ?_ ?_ | refine Ji ?_ ?_ | refine Jj ?_ ?_ | refine run_nil ?_ | refine Jz ?_ | refine Jw ?_ | refine aw_block ?_ | refine Jq ?_ | refine Jr ?_ | refine Js ?_ | refine Jt ?_ | refine Ju ?_ ?_ | refine Jv ?_ ?_ | refine Jy ?_ | refine aw_exit ?_ | refine aw_ret ?_ | refine pp_ret ?_ | refine pp_normal ?_
  all_goals try (exfalso; omega)
  refine aw_loopg
    (S := fun y : Ej => [(1, .int .i64 0), (2, .pointer (some ⟨0, 0, none⟩)), (6, .pointer (some ⟨1, 0, none⟩)), (7, .int .i64 y.i)])
    (B := fun y : Ej => [some ⟨[.string nm, .int .i64 no, .string cd], true, 1⟩, some ⟨[.slice (some ⟨2, 0, none⟩) y.bs.length y.bs.length, .int .i64 0], true, 1⟩, some ⟨List.map (Value.int .u8) y.bs, true, 1⟩])
    (R := fun y : Ej => y.i ≤ 8 ∧ b3 ++ strBits cd y.i = y.bs)
    (μ := fun y : Ej => 8 - y.i) ⟨0, b3⟩ (fitsD [0, 1, 5]) ⟨Nat.zero_le _, by simp [strBits]⟩ ?_
  rintro ⟨i, bs⟩ ⟨g1, g2⟩
  dsimp only at g1 g2 ⊢
  have lbs : bs.length = b3.length + 8 * i := by rw [← g2, List.length_append, strBits_len]
  by_cases hi : i < 8
  · have hbt := UInt8.toNat_lt (byteAt cd i)
    obtain ⟨bs', hbs'⟩ : ∃ z, bs ++ bitsOf 8 ((byteAt cd i).toNat : Int) = z := ⟨_, rfl⟩
    have hst : b3 ++ strBits cd (i + 1) = bs' := by
      rw [← hbs', ← g2, List.append_assoc]
      rfl
    have C9 := ac_runs0 8 ((byteAt cd i).toNat : Int) bs bs' (by decide) (by rw [show ((2 : Int) ^ (8 : Int).toNat) = 256 from rfl]; omega) (by omega) hbs'
    repeat' first | intro h1 | intro h1 | refine st ?_ | refine stMW [1, 2] C9 ?_ | refine stm ?_ | refine Ja ?_ | refine Jb ?_ | refine Jc ?_ | refine Jd ?_ | refine Je ?_ | refine Jf ?_ | refine Jg ?_ | refine Jh ?_ ?_ | refine Ji ?_ ?_ | refine Jj ?_ ?_ | refine run_nil ?_ | refine Jz ?_ | refine Jw ?_ | refine aw_block ?_ | refine Jq ?_ | refine Jr ?_ | refine Js ?_ | refine Jt ?_ | refine Ju ?_ ?_ | refine Jv ?_ ?_ | refine Jy ?_ | refine aw_exit ?_ | refine aw_ret ?_ | refine pp_ret ?_ | refine pp_normal ?_
    all_goals first | exact Exists.intro ⟨i + 1, bs'⟩ ⟨fitsD [0, 1, 3], ⟨hi, hst⟩, by dsimp only; omega⟩ | (exfalso; omega)
  · obtain rfl : i = 8 := by omega
    have CBy := ac_rbytes0 bs (by omega) (by rw [← g2]; exact h01)
    rw [← g2, hres] at CBy
    rw [g2] at CBy
    repeat' first | intro h1 | intro h1 | refine st ?_ | refine stRW [1, 2] CBy ?_ | refine stm ?_ | refine Ja ?_ | refine Jb ?_ | refine Jc ?_ | refine Jd ?_ | refine Je ?_ | refine Jf ?_ | refine Jg ?_ | refine Jh ?_ ?_ | refine Ji ?_ ?_ | refine Jj ?_ ?_ | refine run_nil ?_ | refine Jz ?_ | refine Jw ?_ | refine aw_block ?_ | refine Jq ?_ | refine Jr ?_ | refine Js ?_ | refine Jt ?_ | refine Ju ?_ ?_ | refine Jv ?_ ?_ | refine Jy ?_ | refine aw_exit ?_ | refine aw_ret ?_ | refine pp_ret ?_ | refine pp_normal ?_
    all_goals first
      | rfl
      | (exfalso; omega)
      | (simp [retOf]; done)
      | (exfalso; simp_all; done)
      | (exfalso; simp only [Bool.not_eq_true', Bool.not_eq_false', decide_eq_true_eq, decide_eq_false_iff_not, Bool.not_false, Bool.not_true] at *; omega)
set_option maxHeartbeats 8000000 in
theorem ac_rencB (nm cd : ByteArray) (no : Int) (nd : Int) (h3 : 1 ≤ nd ∧ nd ≤ 31) (h1 : nm.size ≤ 32) (h2 : 0 ≤ no ∧ no ≤ 2147483647) (h4 : cd.size = 8) : ACalls Tryz.prog 90 [.agg #[.string nm, .int .i64 no, .string cd], .int .i64 nd] [] (.tuple #[.string (pkB (joB nm no true nd cd)), .int .i64 0]) [] := by
  obtain ⟨b0, hb0⟩ : ∃ z : List Int, [] = z := ⟨_, rfl⟩
  have lb0 : b0.length = 0 := by rw [← hb0]; rfl
  have C0 := ac_rnewW0 b0 hb0
  obtain ⟨b1, hb1⟩ : ∃ z, b0 ++ bitsOf 1 (if true = true then 1 else 0) = z := ⟨_, rfl⟩
  have lb1 : b1.length = 1 := by rw [← hb1, List.length_append, bitsOf_len, lb0]
  have C1 := ac_rflag0 true b0 b1 (by omega) hb1
  obtain ⟨b2, hb2⟩ : ∃ z, b1 ++ bitsOf (wdth 32).toNat nm.size ++ strBits nm nm.size = z := ⟨_, rfl⟩
  have lb2 : b2.length = 7 + 8 * nm.size := by rw [← hb2, List.length_append, List.length_append, bitsOf_len, strBits_len, lb1, wd32]; rfl
  have C2 := ac_rtext0 32 nm b1 b2 (by decide) (by omega) (by rw [wd32]; omega) hb2
  obtain ⟨b3, hb3⟩ : ∃ z, b2 ++ bitsOf 31 no = z := ⟨_, rfl⟩
  have lb3 : b3.length = b2.length + 31 := by rw [← hb3, List.length_append, bitsOf_len]
  have C3 := ac_runs0 31 no b2 b3 (by decide) (by rw [show ((2 : Int) ^ (31 : Int).toNat) = 2147483648 from rfl]; omega) (by omega) hb3
  obtain ⟨b4, hb4⟩ : ∃ z, b3 ++ bitsOf 5 nd = z := ⟨_, rfl⟩
  have lb4 : b4.length = b3.length + 5 := by rw [← hb4, List.length_append, bitsOf_len]
  have C4 := ac_runs0 5 nd b3 b4 (by decide) (by rw [show ((2 : Int) ^ (5 : Int).toNat) = 32 from rfl]; omega) (by omega) hb4
  have hm : joB nm no true nd cd = b4 ++ strBits cd 8 := by
    unfold joB
    rw [if_pos rfl, if_pos rfl, ← hb4, ← hb3, ← hb2, ← hb1, ← hb0, wd32]
    simp only [List.append_assoc, List.nil_append, List.append_nil]
    rfl
  have h01 := joB_01 nm no true nd cd
  rw [hm] at h01 ⊢
  clear hm hb3 hb2 hb1 hb0 hb4
  obtain ⟨res, hres⟩ : ∃ res, pkB (b4 ++ strBits cd 8) = res := ⟨_, rfl⟩
  rw [hres]
  refine acalls_law Tryz.func90 rfl rfl rfl ?_
  repeat' first | intro h1 | intro h1 | refine st (v := .bool true) (h := ok_gtrJ rfl rfl (by first | rfl | exact decide_eq_true (by omega))) ?_ | refine sd (v := .bool true) (h := ok_gtrJ rfl rfl (by first | rfl | exact decide_eq_true (by omega))) ?_ | refine st ?_ | refine stMW [] C0 ?_ | refine stMW [1, 2] C1 ?_ | refine stMW [1, 3] C2 ?_ | refine stMW [1, 4] C3 ?_ | refine stMW [1, 5] C4 ?_ | refine stm ?_ | refine Ja ?_ | refine Jb ?_ | refine Jc ?_ | refine Jd ?_ | refine Je ?_ | refine Jf ?_ | refine Jg ?_ | refine Jh ?_ ?_ | refine Ji ?_ ?_ | refine Jj ?_ ?_ | refine run_nil ?_ | refine Jz ?_ | refine Jw ?_ | refine aw_block ?_ | refine Jq ?_ | refine Jr ?_ | refine Js ?_ | refine Jt ?_ | refine Ju ?_ ?_ | refine Jv ?_ ?_ | refine Jy ?_ | refine aw_exit ?_ | refine aw_ret ?_ | refine pp_ret ?_ | refine pp_normal ?_
  all_goals try (exfalso; omega)
  refine aw_loopg
    (S := fun y : Ej => [(1, .int .i64 nd), (2, .pointer (some ⟨0, 0, none⟩)), (6, .pointer (some ⟨1, 0, none⟩)), (7, .int .i64 y.i)])
    (B := fun y : Ej => [some ⟨[.string nm, .int .i64 no, .string cd], true, 1⟩, some ⟨[.slice (some ⟨2, 0, none⟩) y.bs.length y.bs.length, .int .i64 0], true, 1⟩, some ⟨List.map (Value.int .u8) y.bs, true, 1⟩])
    (R := fun y : Ej => y.i ≤ 8 ∧ b4 ++ strBits cd y.i = y.bs)
    (μ := fun y : Ej => 8 - y.i) ⟨0, b4⟩ (fitsD [0, 1, 6]) ⟨Nat.zero_le _, by simp [strBits]⟩ ?_
  rintro ⟨i, bs⟩ ⟨g1, g2⟩
  dsimp only at g1 g2 ⊢
  have lbs : bs.length = b4.length + 8 * i := by rw [← g2, List.length_append, strBits_len]
  by_cases hi : i < 8
  · have hbt := UInt8.toNat_lt (byteAt cd i)
    obtain ⟨bs', hbs'⟩ : ∃ z, bs ++ bitsOf 8 ((byteAt cd i).toNat : Int) = z := ⟨_, rfl⟩
    have hst : b4 ++ strBits cd (i + 1) = bs' := by
      rw [← hbs', ← g2, List.append_assoc]
      rfl
    have C9 := ac_runs0 8 ((byteAt cd i).toNat : Int) bs bs' (by decide) (by rw [show ((2 : Int) ^ (8 : Int).toNat) = 256 from rfl]; omega) (by omega) hbs'
    repeat' first | intro h1 | intro h1 | refine st ?_ | refine stMW [1, 2] C9 ?_ | refine stm ?_ | refine Ja ?_ | refine Jb ?_ | refine Jc ?_ | refine Jd ?_ | refine Je ?_ | refine Jf ?_ | refine Jg ?_ | refine Jh ?_ ?_ | refine Ji ?_ ?_ | refine Jj ?_ ?_ | refine run_nil ?_ | refine Jz ?_ | refine Jw ?_ | refine aw_block ?_ | refine Jq ?_ | refine Jr ?_ | refine Js ?_ | refine Jt ?_ | refine Ju ?_ ?_ | refine Jv ?_ ?_ | refine Jy ?_ | refine aw_exit ?_ | refine aw_ret ?_ | refine pp_ret ?_ | refine pp_normal ?_
    all_goals first | exact Exists.intro ⟨i + 1, bs'⟩ ⟨fitsD [0, 1, 3], ⟨hi, hst⟩, by dsimp only; omega⟩ | (exfalso; omega)
  · obtain rfl : i = 8 := by omega
    have CBy := ac_rbytes0 bs (by omega) (by rw [← g2]; exact h01)
    rw [← g2, hres] at CBy
    rw [g2] at CBy
    repeat' first | intro h1 | intro h1 | refine st ?_ | refine stRW [1, 2] CBy ?_ | refine stm ?_ | refine Ja ?_ | refine Jb ?_ | refine Jc ?_ | refine Jd ?_ | refine Je ?_ | refine Jf ?_ | refine Jg ?_ | refine Jh ?_ ?_ | refine Ji ?_ ?_ | refine Jj ?_ ?_ | refine run_nil ?_ | refine Jz ?_ | refine Jw ?_ | refine aw_block ?_ | refine Jq ?_ | refine Jr ?_ | refine Js ?_ | refine Jt ?_ | refine Ju ?_ ?_ | refine Jv ?_ ?_ | refine Jy ?_ | refine aw_exit ?_ | refine aw_ret ?_ | refine pp_ret ?_ | refine pp_normal ?_
    all_goals first
      | rfl
      | (exfalso; omega)
      | (simp [retOf]; done)
      | (exfalso; simp_all; done)
      | (exfalso; simp only [Bool.not_eq_true', Bool.not_eq_false', decide_eq_true_eq, decide_eq_false_iff_not, Bool.not_false, Bool.not_true] at *; omega)
set_option maxHeartbeats 16000000 in
theorem ac_rdecA (d : ByteArray) (hd : d.size ≤ 1000) (a1 a2 a3 a5 : Nat) (e1 e2 e3 e5 no c : Int) (t : ByteArray) (L : List Int) (h1 : flgR d 0 0 = (false, a1, e1)) (h2 : txtR d a1 e1 32 = (t, a2, e2)) (h3 : unsR d a2 e2 31 = (no, a3, e3)) (h5 : cdR d a3 e3 8 = (L, a5, e5)) (hc : closeR d a5 e5 = c) (x : Bool) (hx : (decide (c = 0) && (akB t no ⟨(L.map b8).toArray⟩ && decide (0 ≤ 0))) = x) : ACalls Tryz.prog 92 [.string d] [] (.tuple #[.agg #[.string t, .int .i64 no, .string ⟨(L.map b8).toArray⟩], .int .i64 0, .bool x]) [] := by
  have l1 := flgR_le h1 (Nat.zero_le _)
  have l2 := txtR_le h2 l1 (by decide)
  have l3 := unsR_le h3 l2 (by decide)
  have r0 : RR d 0 0 d 0 := ⟨fun _ => ⟨rfl, rfl⟩, fun h => absurd rfl h⟩
  obtain ⟨x1, y1, r1⟩ := rr_ex2 d a1 e1
  obtain ⟨x2, y2, r2⟩ := rr_ex2 d a2 e2
  obtain ⟨x3, y3, r3⟩ := rr_ex2 d a3 e3
  have C0 := ac_rrnew d (by omega)
  have C1 := ac_rflgR 0 e1 false 0 a1 d d x1 0 y1 h1 r0 r1 (Nat.zero_le _) (by omega)
  have C2 := ac_rtxtR 32 e1 e2 t a1 a2 d x1 x2 y1 y2 h2 r1 r2 l1 (by omega) (by decide)
  have C3 := ac_runsR 31 e2 e3 no a2 a3 d x2 x3 y2 y3 h3 r2 r3 l2 (by omega) (by decide)
  refine acalls_law Tryz.func92 rfl rfl rfl ?_
  refine aw_ghost 1 rfl ?_
  repeat' first | intro h1 | intro h1 | refine st ?_ | refine stMW [] C0 ?_ | refine stMW [2] C1 ?_ | refine stMW [2] C2 ?_ | refine stMW [2] C3 ?_ | refine stm ?_ | refine Ja ?_ | refine Jb ?_ | refine Jc ?_ | refine Jd ?_ | refine Je ?_ | refine Jf ?_ | refine Jg ?_ | refine Jh ?_ ?_ | refine Ji ?_ ?_ | refine Jj ?_ ?_ | refine run_nil ?_ | refine sd ?_ | refine sdl ?_ | refine sdm (n := 1) ?_ | refine sdm ?_ | refine sdb ?_ | refine Jk ?_ | refine Jl ?_ | refine Jm ?_ | refine Jn ?_ ?_ | refine Jo ?_ ?_ | refine Jp ?_ ?_ | refine rund_nil ?_ | refine Jz ?_ | refine Jw ?_ | refine Jx (id := 14) [0,0,0,4,12,28,60,124,252,508,1020,1020,3068,8188,16380,1021,33791,131071] 15 ?_ | refine aw_block ?_ | refine Jq ?_ | refine Jr ?_ | refine Js ?_ | refine Jt ?_ | refine Ju ?_ ?_ | refine Jv ?_ ?_ | refine Jy ?_ | refine aw_exit ?_ | refine aw_ret ?_ | refine pp_ret ?_ | refine pp_normal ?_
  all_goals try (exfalso; omega)
  clear C0 C1 C2 C3
  refine aw_loopg
    (S := fun y : Cj => [(2, .pointer (some ⟨1, 0, none⟩)), (5, .pointer (some ⟨2, 0, none⟩)), (6, .bool false), (7, .pointer (some ⟨3, 0, none⟩)), (8, .int .i64 0), (9, .slice (some ⟨0, 0, none⟩) y.i y.i), (10, .int .i64 y.i)])
    (B := fun y : Cj => [some ⟨List.map (Value.int .u8) y.L, true, 1⟩, some ⟨[.string ⟨#[]⟩, .int .i64 0, .string ⟨#[]⟩], true, 1⟩, some ⟨[.string y.d2, .int .i64 y.a2, .int .i64 y.e], true, 1⟩, some ⟨[.string t, .int .i64 no, .string ⟨#[]⟩], true, 1⟩])
    (R := fun y : Cj => y.i ≤ 8 ∧ cdR d a3 e3 y.i = (y.L, y.a, y.e) ∧ y.L.length = y.i ∧ y.a ≤ 8 * d.size ∧ RR d y.a y.e y.d2 y.a2)
    (μ := fun y : Cj => 8 - y.i) ⟨0, [], a3, e3, x3, y3⟩ (fitsD [0, 1, 2, 3]) ⟨Nat.zero_le _, rfl, rfl, l3, r3⟩ ?_
  rintro ⟨i, Li, ai, ei, d2, ad2⟩ ⟨g1, g2, g3, g4, g5⟩
  dsimp only at *
  by_cases hi : i < 8
  · obtain ⟨v1, a6, e6, h6⟩ : ∃ v z e1, unsR d ai ei 8 = (v, z, e1) := ⟨_, _, _, rfl⟩
    have l6 := unsR_le h6 g4 (by decide)
    have hv := unsR_rng h6 (by decide)
    rw [show ((2 : Int) ^ (8 : Int).toNat) = 256 from rfl] at hv
    have hn := cdR_succ g2 h6
    obtain ⟨x6, y6, r6⟩ := rr_ex2 d a6 e6
    have C6 := ac_runsR 8 ei e6 v1 ai a6 d d2 x6 ad2 y6 h6 g5 r6 g4 (by omega) (by decide)
    repeat' first | intro h1 | intro h1 | refine stm (h := by (apply ok_append (cs := List.map (Value.int .u8) (Li ++ [v1])) (olds := List.map (Value.int .u8) Li); rfl; rfl; rfl; rfl; rfl; rfl; (focus (apply Src.slc; rfl; exact Ty.eq; rfl; exact Nat.le_of_ble_eq_true rfl; exact TakeR.eq (by ((repeat constructor); first | done | fail)); rfl; rfl)); (focus (simp; omega)); (focus (apply take_full; simp; omega)); (focus (rw [List.map_append]; rfl)); omega; (focus ((repeat constructor); first | done | fail)))) ?_ | refine st ?_ | refine stMW [2] C6 ?_ | refine stm ?_ | refine Ja ?_ | refine Jb ?_ | refine Jc ?_ | refine Jd ?_ | refine Je ?_ | refine Jf ?_ | refine Jg ?_ | refine Jh ?_ ?_ | refine Ji ?_ ?_ | refine Jj ?_ ?_ | refine run_nil ?_ | refine sd ?_ | refine sdl ?_ | refine sdm (n := 1) ?_ | refine sdm ?_ | refine sdb ?_ | refine Jk ?_ | refine Jl ?_ | refine Jm ?_ | refine Jn ?_ ?_ | refine Jo ?_ ?_ | refine Jp ?_ ?_ | refine rund_nil ?_ | refine Jz ?_ | refine Jw ?_ | refine Jx (id := 14) [0,0,0,4,12,28,60,124,252,508,1020,1020,3068,8188,16380,1021,33791,131071] 15 ?_ | refine aw_block ?_ | refine Jq ?_ | refine Jr ?_ | refine Js ?_ | refine Jt ?_ | refine Ju ?_ ?_ | refine Jv ?_ ?_ | refine Jy ?_ | refine aw_exit ?_ | refine aw_ret ?_ | refine pp_ret ?_ | refine pp_normal ?_
    all_goals first | exact Exists.intro ⟨i + 1, Li ++ [v1], a6, e6, x6, y6⟩ ⟨fitsD [5, 1, 2, 3], ⟨hi, hn, by rw [List.length_append, g3]; rfl, l6, r6⟩, by dsimp only; omega⟩ | (exfalso; omega)
  · obtain rfl : i = 8 := by omega
    rw [g2] at h5
    simp only [Prod.mk.injEq] at h5
    obtain ⟨rfl, rfl, rfl⟩ := h5
    have hbu := bytes_u8 Li (fun z hz => by have := cdR_rng g2 z hz; omega)
    have CC := ac_rcloseR ei c ai d d2 ad2 hc g5 g4 (by omega)
    obtain ⟨k, hk⟩ : ∃ k, akB t no ⟨(Li.map b8).toArray⟩ = k := ⟨_, rfl⟩
    have CK := ac_AskForm t no ⟨(Li.map b8).toArray⟩ k hk
    rw [hk] at hx
    clear hc hk
    by_cases hc0 : c = 0
    · rw [decide_eq_true hc0, Bool.true_and] at hx
      cases k with
      | false =>
        rw [Bool.false_and] at hx
        subst hx
        repeat' first | intro h1 | intro h1 | refine st (h := ok_bytes_str (l := Li.map b8) rfl rfl (by simp; omega) ((take_full (by simp; omega)).trans hbu)) ?_ | refine st ?_ | refine stRW [2] CC ?_ | refine sdRW [2] CC ?_ | refine st_call (CK) ?_ | refine sd_call (CK) ?_ | refine stm ?_ | refine Ja ?_ | refine Jb ?_ | refine Jc ?_ | refine Jd ?_ | refine Je ?_ | refine Jf ?_ | refine Jg ?_ | refine Jh ?_ ?_ | refine Ji ?_ ?_ | refine Jj ?_ ?_ | refine run_nil ?_ | refine sd ?_ | refine sdl ?_ | refine sdm (n := 1) ?_ | refine sdm ?_ | refine sdb ?_ | refine Jk ?_ | refine Jl ?_ | refine Jm ?_ | refine Jn ?_ ?_ | refine Jo ?_ ?_ | refine Jp ?_ ?_ | refine rund_nil ?_ | refine Jz ?_ | refine Jw ?_ | refine Jx (id := 14) [0,0,0,4,12,28,60,124,252,508,1020,1020,3068,8188,16380,1021,33791,131071] 15 ?_ | refine aw_block ?_ | refine Jq ?_ | refine Jr ?_ | refine Js ?_ | refine Jt ?_ | refine Ju ?_ ?_ | refine Jv ?_ ?_ | refine Jy ?_ | refine aw_exit ?_ | refine aw_ret ?_ | refine pp_ret ?_ | refine pp_normal ?_
        all_goals first
          | rfl
          | (exfalso; omega)
          | (simp [retOf]; done)
          | (exfalso; simp_all; done)
          | (exfalso; simp only [Bool.not_eq_true', Bool.not_eq_false', decide_eq_true_eq, decide_eq_false_iff_not, Bool.not_false, Bool.not_true] at *; omega)
      | true =>
        rw [Bool.true_and] at hx
        rw [decide_eq_true (by omega)] at hx
        subst hx
        repeat' first | intro h1 | intro h1 | refine st (h := ok_bytes_str (l := Li.map b8) rfl rfl (by simp; omega) ((take_full (by simp; omega)).trans hbu)) ?_ | refine st ?_ | refine stRW [2] CC ?_ | refine sdRW [2] CC ?_ | refine st_call (CK) ?_ | refine sd_call (CK) ?_ | refine stm ?_ | refine Ja ?_ | refine Jb ?_ | refine Jc ?_ | refine Jd ?_ | refine Je ?_ | refine Jf ?_ | refine Jg ?_ | refine Jh ?_ ?_ | refine Ji ?_ ?_ | refine Jj ?_ ?_ | refine run_nil ?_ | refine sd ?_ | refine sdl ?_ | refine sdm (n := 1) ?_ | refine sdm ?_ | refine sdb ?_ | refine Jk ?_ | refine Jl ?_ | refine Jm ?_ | refine Jn ?_ ?_ | refine Jo ?_ ?_ | refine Jp ?_ ?_ | refine rund_nil ?_ | refine Jz ?_ | refine Jw ?_ | refine Jx (id := 14) [0,0,0,4,12,28,60,124,252,508,1020,1020,3068,8188,16380,1021,33791,131071] 15 ?_ | refine aw_block ?_ | refine Jq ?_ | refine Jr ?_ | refine Js ?_ | refine Jt ?_ | refine Ju ?_ ?_ | refine Jv ?_ ?_ | refine Jy ?_ | refine aw_exit ?_ | refine aw_ret ?_ | refine pp_ret ?_ | refine pp_normal ?_
        all_goals first
          | rfl
          | (exfalso; omega)
          | (simp [retOf]; done)
          | (exfalso; simp_all; done)
          | (exfalso; simp only [Bool.not_eq_true', Bool.not_eq_false', decide_eq_true_eq, decide_eq_false_iff_not, Bool.not_false, Bool.not_true] at *; omega)
    · rw [decide_eq_false hc0, Bool.false_and] at hx
      subst hx
      repeat' first | intro h1 | intro h1 | refine st (h := ok_bytes_str (l := Li.map b8) rfl rfl (by simp; omega) ((take_full (by simp; omega)).trans hbu)) ?_ | refine st ?_ | refine stRW [2] CC ?_ | refine sdRW [2] CC ?_ | refine st_call (CK) ?_ | refine sd_call (CK) ?_ | refine stm ?_ | refine Ja ?_ | refine Jb ?_ | refine Jc ?_ | refine Jd ?_ | refine Je ?_ | refine Jf ?_ | refine Jg ?_ | refine Jh ?_ ?_ | refine Ji ?_ ?_ | refine Jj ?_ ?_ | refine run_nil ?_ | refine sd ?_ | refine sdl ?_ | refine sdm (n := 1) ?_ | refine sdm ?_ | refine sdb ?_ | refine Jk ?_ | refine Jl ?_ | refine Jm ?_ | refine Jn ?_ ?_ | refine Jo ?_ ?_ | refine Jp ?_ ?_ | refine rund_nil ?_ | refine Jz ?_ | refine Jw ?_ | refine Jx (id := 14) [0,0,0,4,12,28,60,124,252,508,1020,1020,3068,8188,16380,1021,33791,131071] 15 ?_ | refine aw_block ?_ | refine Jq ?_ | refine Jr ?_ | refine Js ?_ | refine Jt ?_ | refine Ju ?_ ?_ | refine Jv ?_ ?_ | refine Jy ?_ | refine aw_exit ?_ | refine aw_ret ?_ | refine pp_ret ?_ | refine pp_normal ?_
      all_goals first
        | rfl
        | (exfalso; omega)
        | (simp [retOf]; done)
        | (exfalso; simp_all; done)
        | (exfalso; simp only [Bool.not_eq_true', Bool.not_eq_false', decide_eq_true_eq, decide_eq_false_iff_not, Bool.not_false, Bool.not_true] at *; omega)
set_option maxHeartbeats 16000000 in
theorem ac_rdecB (d : ByteArray) (hd : d.size ≤ 1000) (a1 a2 a3 a4 a5 : Nat) (e1 e2 e3 e4 e5 no nd c : Int) (t : ByteArray) (L : List Int) (h1 : flgR d 0 0 = (true, a1, e1)) (h2 : txtR d a1 e1 32 = (t, a2, e2)) (h3 : unsR d a2 e2 31 = (no, a3, e3)) (h4 : unsR d a3 e3 5 = (nd, a4, e4)) (h5 : cdR d a4 e4 8 = (L, a5, e5)) (hc : closeR d a5 e5 = c) (x : Bool) (hx : (decide (c = 0) && (akB t no ⟨(L.map b8).toArray⟩ && decide (0 < nd))) = x) : ACalls Tryz.prog 92 [.string d] [] (.tuple #[.agg #[.string t, .int .i64 no, .string ⟨(L.map b8).toArray⟩], .int .i64 nd, .bool x]) [] := by
  have l1 := flgR_le h1 (Nat.zero_le _)
  have l2 := txtR_le h2 l1 (by decide)
  have l3 := unsR_le h3 l2 (by decide)
  have l4 := unsR_le h4 l3 (by decide)
  have hn4 := unsR_rng h4 (by decide)
  rw [show ((2 : Int) ^ (5 : Int).toNat) = 32 from rfl] at hn4
  have r0 : RR d 0 0 d 0 := ⟨fun _ => ⟨rfl, rfl⟩, fun h => absurd rfl h⟩
  obtain ⟨x1, y1, r1⟩ := rr_ex2 d a1 e1
  obtain ⟨x2, y2, r2⟩ := rr_ex2 d a2 e2
  obtain ⟨x3, y3, r3⟩ := rr_ex2 d a3 e3
  obtain ⟨x4, y4, r4⟩ := rr_ex2 d a4 e4
  have C0 := ac_rrnew d (by omega)
  have C1 := ac_rflgR 0 e1 true 0 a1 d d x1 0 y1 h1 r0 r1 (Nat.zero_le _) (by omega)
  have C2 := ac_rtxtR 32 e1 e2 t a1 a2 d x1 x2 y1 y2 h2 r1 r2 l1 (by omega) (by decide)
  have C3 := ac_runsR 31 e2 e3 no a2 a3 d x2 x3 y2 y3 h3 r2 r3 l2 (by omega) (by decide)
  have C4 := ac_runsR 5 e3 e4 nd a3 a4 d x3 x4 y3 y4 h4 r3 r4 l3 (by omega) (by decide)
  refine acalls_law Tryz.func92 rfl rfl rfl ?_
  refine aw_ghost 1 rfl ?_
  repeat' first | intro h1 | intro h1 | refine st ?_ | refine stMW [] C0 ?_ | refine stMW [2] C1 ?_ | refine stMW [2] C2 ?_ | refine stMW [2] C3 ?_ | refine stMW [2] C4 ?_ | refine stm ?_ | refine Ja ?_ | refine Jb ?_ | refine Jc ?_ | refine Jd ?_ | refine Je ?_ | refine Jf ?_ | refine Jg ?_ | refine Jh ?_ ?_ | refine Ji ?_ ?_ | refine Jj ?_ ?_ | refine run_nil ?_ | refine sd ?_ | refine sdl ?_ | refine sdm (n := 1) ?_ | refine sdm ?_ | refine sdb ?_ | refine Jk ?_ | refine Jl ?_ | refine Jm ?_ | refine Jn ?_ ?_ | refine Jo ?_ ?_ | refine Jp ?_ ?_ | refine rund_nil ?_ | refine Jz ?_ | refine Jw ?_ | refine Jx (id := 14) [0,0,0,4,12,28,60,124,252,508,1020,1020,3068,8188,16380,1021,33791,131071] 15 ?_ | refine aw_block ?_ | refine Jq ?_ | refine Jr ?_ | refine Js ?_ | refine Jt ?_ | refine Ju ?_ ?_ | refine Jv ?_ ?_ | refine Jy ?_ | refine aw_exit ?_ | refine aw_ret ?_ | refine pp_ret ?_ | refine pp_normal ?_
  all_goals try (exfalso; omega)
  clear C0 C1 C2 C3 C4
  refine aw_loopg
    (S := fun y : Cj => [(2, .pointer (some ⟨1, 0, none⟩)), (5, .pointer (some ⟨2, 0, none⟩)), (6, .bool true), (7, .pointer (some ⟨3, 0, none⟩)), (8, .int .i64 nd), (9, .slice (some ⟨0, 0, none⟩) y.i y.i), (10, .int .i64 y.i)])
    (B := fun y : Cj => [some ⟨List.map (Value.int .u8) y.L, true, 1⟩, some ⟨[.string ⟨#[]⟩, .int .i64 0, .string ⟨#[]⟩], true, 1⟩, some ⟨[.string y.d2, .int .i64 y.a2, .int .i64 y.e], true, 1⟩, some ⟨[.string t, .int .i64 no, .string ⟨#[]⟩], true, 1⟩])
    (R := fun y : Cj => y.i ≤ 8 ∧ cdR d a4 e4 y.i = (y.L, y.a, y.e) ∧ y.L.length = y.i ∧ y.a ≤ 8 * d.size ∧ RR d y.a y.e y.d2 y.a2)
    (μ := fun y : Cj => 8 - y.i) ⟨0, [], a4, e4, x4, y4⟩ (fitsD [0, 1, 2, 3]) ⟨Nat.zero_le _, rfl, rfl, l4, r4⟩ ?_
  rintro ⟨i, Li, ai, ei, d2, ad2⟩ ⟨g1, g2, g3, g4, g5⟩
  dsimp only at *
  by_cases hi : i < 8
  · obtain ⟨v1, a6, e6, h6⟩ : ∃ v z e1, unsR d ai ei 8 = (v, z, e1) := ⟨_, _, _, rfl⟩
    have l6 := unsR_le h6 g4 (by decide)
    have hv := unsR_rng h6 (by decide)
    rw [show ((2 : Int) ^ (8 : Int).toNat) = 256 from rfl] at hv
    have hn := cdR_succ g2 h6
    obtain ⟨x6, y6, r6⟩ := rr_ex2 d a6 e6
    have C6 := ac_runsR 8 ei e6 v1 ai a6 d d2 x6 ad2 y6 h6 g5 r6 g4 (by omega) (by decide)
    repeat' first | intro h1 | intro h1 | refine stm (h := by (apply ok_append (cs := List.map (Value.int .u8) (Li ++ [v1])) (olds := List.map (Value.int .u8) Li); rfl; rfl; rfl; rfl; rfl; rfl; (focus (apply Src.slc; rfl; exact Ty.eq; rfl; exact Nat.le_of_ble_eq_true rfl; exact TakeR.eq (by ((repeat constructor); first | done | fail)); rfl; rfl)); (focus (simp; omega)); (focus (apply take_full; simp; omega)); (focus (rw [List.map_append]; rfl)); omega; (focus ((repeat constructor); first | done | fail)))) ?_ | refine st ?_ | refine stMW [2] C6 ?_ | refine stm ?_ | refine Ja ?_ | refine Jb ?_ | refine Jc ?_ | refine Jd ?_ | refine Je ?_ | refine Jf ?_ | refine Jg ?_ | refine Jh ?_ ?_ | refine Ji ?_ ?_ | refine Jj ?_ ?_ | refine run_nil ?_ | refine sd ?_ | refine sdl ?_ | refine sdm (n := 1) ?_ | refine sdm ?_ | refine sdb ?_ | refine Jk ?_ | refine Jl ?_ | refine Jm ?_ | refine Jn ?_ ?_ | refine Jo ?_ ?_ | refine Jp ?_ ?_ | refine rund_nil ?_ | refine Jz ?_ | refine Jw ?_ | refine Jx (id := 14) [0,0,0,4,12,28,60,124,252,508,1020,1020,3068,8188,16380,1021,33791,131071] 15 ?_ | refine aw_block ?_ | refine Jq ?_ | refine Jr ?_ | refine Js ?_ | refine Jt ?_ | refine Ju ?_ ?_ | refine Jv ?_ ?_ | refine Jy ?_ | refine aw_exit ?_ | refine aw_ret ?_ | refine pp_ret ?_ | refine pp_normal ?_
    all_goals first | exact Exists.intro ⟨i + 1, Li ++ [v1], a6, e6, x6, y6⟩ ⟨fitsD [5, 1, 2, 3], ⟨hi, hn, by rw [List.length_append, g3]; rfl, l6, r6⟩, by dsimp only; omega⟩ | (exfalso; omega)
  · obtain rfl : i = 8 := by omega
    rw [g2] at h5
    simp only [Prod.mk.injEq] at h5
    obtain ⟨rfl, rfl, rfl⟩ := h5
    have hbu := bytes_u8 Li (fun z hz => by have := cdR_rng g2 z hz; omega)
    have CC := ac_rcloseR ei c ai d d2 ad2 hc g5 g4 (by omega)
    obtain ⟨k, hk⟩ : ∃ k, akB t no ⟨(Li.map b8).toArray⟩ = k := ⟨_, rfl⟩
    have CK := ac_AskForm t no ⟨(Li.map b8).toArray⟩ k hk
    rw [hk] at hx
    clear hc hk
    by_cases hc0 : c = 0
    · rw [decide_eq_true hc0, Bool.true_and] at hx
      cases k with
      | false =>
        rw [Bool.false_and] at hx
        subst hx
        repeat' first | intro h1 | intro h1 | refine sd (v := .bool true) (h := ok_gtrJ rfl rfl (decide_eq_true (by omega))) ?_ | refine st (v := .bool true) (h := ok_gtrJ rfl rfl (decide_eq_true (by omega))) ?_ | refine sd (v := .bool false) (h := ok_gtrJ rfl rfl (decide_eq_false (by omega))) ?_ | refine st (v := .bool false) (h := ok_gtrJ rfl rfl (decide_eq_false (by omega))) ?_ | refine st (h := ok_bytes_str (l := Li.map b8) rfl rfl (by simp; omega) ((take_full (by simp; omega)).trans hbu)) ?_ | refine st ?_ | refine stRW [2] CC ?_ | refine sdRW [2] CC ?_ | refine st_call (CK) ?_ | refine sd_call (CK) ?_ | refine stm ?_ | refine Ja ?_ | refine Jb ?_ | refine Jc ?_ | refine Jd ?_ | refine Je ?_ | refine Jf ?_ | refine Jg ?_ | refine Jh ?_ ?_ | refine Ji ?_ ?_ | refine Jj ?_ ?_ | refine run_nil ?_ | refine sd ?_ | refine sdl ?_ | refine sdm (n := 1) ?_ | refine sdm ?_ | refine sdb ?_ | refine Jk ?_ | refine Jl ?_ | refine Jm ?_ | refine Jn ?_ ?_ | refine Jo ?_ ?_ | refine Jp ?_ ?_ | refine rund_nil ?_ | refine Jz ?_ | refine Jw ?_ | refine Jx (id := 14) [0,0,0,4,12,28,60,124,252,508,1020,1020,3068,8188,16380,1021,33791,131071] 15 ?_ | refine aw_block ?_ | refine Jq ?_ | refine Jr ?_ | refine Js ?_ | refine Jt ?_ | refine Ju ?_ ?_ | refine Jv ?_ ?_ | refine Jy ?_ | refine aw_exit ?_ | refine aw_ret ?_ | refine pp_ret ?_ | refine pp_normal ?_
        all_goals first
          | rfl
          | (exfalso; omega)
          | (simp [retOf]; done)
          | (exfalso; simp_all; done)
          | (exfalso; simp only [Bool.not_eq_true', Bool.not_eq_false', decide_eq_true_eq, decide_eq_false_iff_not, Bool.not_false, Bool.not_true] at *; omega)
      | true =>
        rw [Bool.true_and] at hx
        by_cases hn0 : 0 < nd
        · rw [decide_eq_true hn0] at hx
          subst hx
          repeat' first | intro h1 | intro h1 | refine sd (v := .bool true) (h := ok_gtrJ rfl rfl (decide_eq_true (by omega))) ?_ | refine st (v := .bool true) (h := ok_gtrJ rfl rfl (decide_eq_true (by omega))) ?_ | refine sd (v := .bool false) (h := ok_gtrJ rfl rfl (decide_eq_false (by omega))) ?_ | refine st (v := .bool false) (h := ok_gtrJ rfl rfl (decide_eq_false (by omega))) ?_ | refine st (h := ok_bytes_str (l := Li.map b8) rfl rfl (by simp; omega) ((take_full (by simp; omega)).trans hbu)) ?_ | refine st ?_ | refine stRW [2] CC ?_ | refine sdRW [2] CC ?_ | refine st_call (CK) ?_ | refine sd_call (CK) ?_ | refine stm ?_ | refine Ja ?_ | refine Jb ?_ | refine Jc ?_ | refine Jd ?_ | refine Je ?_ | refine Jf ?_ | refine Jg ?_ | refine Jh ?_ ?_ | refine Ji ?_ ?_ | refine Jj ?_ ?_ | refine run_nil ?_ | refine sd ?_ | refine sdl ?_ | refine sdm (n := 1) ?_ | refine sdm ?_ | refine sdb ?_ | refine Jk ?_ | refine Jl ?_ | refine Jm ?_ | refine Jn ?_ ?_ | refine Jo ?_ ?_ | refine Jp ?_ ?_ | refine rund_nil ?_ | refine Jz ?_ | refine Jw ?_ | refine Jx (id := 14) [0,0,0,4,12,28,60,124,252,508,1020,1020,3068,8188,16380,1021,33791,131071] 15 ?_ | refine aw_block ?_ | refine Jq ?_ | refine Jr ?_ | refine Js ?_ | refine Jt ?_ | refine Ju ?_ ?_ | refine Jv ?_ ?_ | refine Jy ?_ | refine aw_exit ?_ | refine aw_ret ?_ | refine pp_ret ?_ | refine pp_normal ?_
          all_goals first
            | rfl
            | (exfalso; omega)
            | (simp [retOf]; done)
            | (exfalso; simp_all; done)
            | (exfalso; simp only [Bool.not_eq_true', Bool.not_eq_false', decide_eq_true_eq, decide_eq_false_iff_not, Bool.not_false, Bool.not_true] at *; omega)
        · rw [decide_eq_false hn0] at hx
          subst hx
          repeat' first | intro h1 | intro h1 | refine sd (v := .bool true) (h := ok_gtrJ rfl rfl (decide_eq_true (by omega))) ?_ | refine st (v := .bool true) (h := ok_gtrJ rfl rfl (decide_eq_true (by omega))) ?_ | refine sd (v := .bool false) (h := ok_gtrJ rfl rfl (decide_eq_false (by omega))) ?_ | refine st (v := .bool false) (h := ok_gtrJ rfl rfl (decide_eq_false (by omega))) ?_ | refine st (h := ok_bytes_str (l := Li.map b8) rfl rfl (by simp; omega) ((take_full (by simp; omega)).trans hbu)) ?_ | refine st ?_ | refine stRW [2] CC ?_ | refine sdRW [2] CC ?_ | refine st_call (CK) ?_ | refine sd_call (CK) ?_ | refine stm ?_ | refine Ja ?_ | refine Jb ?_ | refine Jc ?_ | refine Jd ?_ | refine Je ?_ | refine Jf ?_ | refine Jg ?_ | refine Jh ?_ ?_ | refine Ji ?_ ?_ | refine Jj ?_ ?_ | refine run_nil ?_ | refine sd ?_ | refine sdl ?_ | refine sdm (n := 1) ?_ | refine sdm ?_ | refine sdb ?_ | refine Jk ?_ | refine Jl ?_ | refine Jm ?_ | refine Jn ?_ ?_ | refine Jo ?_ ?_ | refine Jp ?_ ?_ | refine rund_nil ?_ | refine Jz ?_ | refine Jw ?_ | refine Jx (id := 14) [0,0,0,4,12,28,60,124,252,508,1020,1020,3068,8188,16380,1021,33791,131071] 15 ?_ | refine aw_block ?_ | refine Jq ?_ | refine Jr ?_ | refine Js ?_ | refine Jt ?_ | refine Ju ?_ ?_ | refine Jv ?_ ?_ | refine Jy ?_ | refine aw_exit ?_ | refine aw_ret ?_ | refine pp_ret ?_ | refine pp_normal ?_
          all_goals first
            | rfl
            | (exfalso; omega)
            | (simp [retOf]; done)
            | (exfalso; simp_all; done)
            | (exfalso; simp only [Bool.not_eq_true', Bool.not_eq_false', decide_eq_true_eq, decide_eq_false_iff_not, Bool.not_false, Bool.not_true] at *; omega)
    · rw [decide_eq_false hc0, Bool.false_and] at hx
      subst hx
      repeat' first | intro h1 | intro h1 | refine sd (v := .bool true) (h := ok_gtrJ rfl rfl (decide_eq_true (by omega))) ?_ | refine st (v := .bool true) (h := ok_gtrJ rfl rfl (decide_eq_true (by omega))) ?_ | refine sd (v := .bool false) (h := ok_gtrJ rfl rfl (decide_eq_false (by omega))) ?_ | refine st (v := .bool false) (h := ok_gtrJ rfl rfl (decide_eq_false (by omega))) ?_ | refine st (h := ok_bytes_str (l := Li.map b8) rfl rfl (by simp; omega) ((take_full (by simp; omega)).trans hbu)) ?_ | refine st ?_ | refine stRW [2] CC ?_ | refine sdRW [2] CC ?_ | refine st_call (CK) ?_ | refine sd_call (CK) ?_ | refine stm ?_ | refine Ja ?_ | refine Jb ?_ | refine Jc ?_ | refine Jd ?_ | refine Je ?_ | refine Jf ?_ | refine Jg ?_ | refine Jh ?_ ?_ | refine Ji ?_ ?_ | refine Jj ?_ ?_ | refine run_nil ?_ | refine sd ?_ | refine sdl ?_ | refine sdm (n := 1) ?_ | refine sdm ?_ | refine sdb ?_ | refine Jk ?_ | refine Jl ?_ | refine Jm ?_ | refine Jn ?_ ?_ | refine Jo ?_ ?_ | refine Jp ?_ ?_ | refine rund_nil ?_ | refine Jz ?_ | refine Jw ?_ | refine Jx (id := 14) [0,0,0,4,12,28,60,124,252,508,1020,1020,3068,8188,16380,1021,33791,131071] 15 ?_ | refine aw_block ?_ | refine Jq ?_ | refine Jr ?_ | refine Js ?_ | refine Jt ?_ | refine Ju ?_ ?_ | refine Jv ?_ ?_ | refine Jy ?_ | refine aw_exit ?_ | refine aw_ret ?_ | refine pp_ret ?_ | refine pp_normal ?_
      all_goals first
        | rfl
        | (exfalso; omega)
        | (simp [retOf]; done)
        | (exfalso; simp_all; done)
        | (exfalso; simp only [Bool.not_eq_true', Bool.not_eq_false', decide_eq_true_eq, decide_eq_false_iff_not, Bool.not_false, Bool.not_true] at *; omega)
end Go.Proofs.YtdbcbclapipgdaaGreatDoor
