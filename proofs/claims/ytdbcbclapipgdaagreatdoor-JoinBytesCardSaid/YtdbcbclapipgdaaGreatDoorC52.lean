/- Join: requests and answers, written and read; Join: bytes, both; JoinBytes: the law. -/
import Derived.Test.YtdbcbclapipgdaaGreatDoorVO
import Derived.Test.YtdbcbclapipgdaaGreatDoorJ
import Derived.Test.YtdbcbclapipgdaaGreatDoorC47
import Derived.Test.YtdbcbclapipgdaaGreatDoorC49
import Derived.Test.YtdbcbclapipgdaaGreatDoorC51
set_option linter.unusedVariables false
set_option linter.unusedSimpArgs false
namespace Go.Proofs.YtdbcbclapipgdaaGreatDoor
open Go Av
set_option maxRecDepth 20000
set_option maxHeartbeats 4000000 in
theorem ac_rEA0 (nm cd : ByteArray) (no : Int) (h : akB nm no cd = false) : ACalls Tryz.prog 42 [.agg #[.string nm, .int .i64 no, .string cd]] [] (.tuple #[.string ⟨#[]⟩, .int .i64 1]) [] := by
  have HK := ac_AskForm nm no cd false h
  refine acalls_law Tryz.func42 rfl rfl rfl ?_
  repeat' first | intro h1 | intro h1 | refine st (h := ok_not_dec2 rfl) ?_ | refine st ?_ | refine st_call (HK) ?_ | refine st_call (HE) ?_ | refine sd_call (HK) ?_ | refine sd_call (HE) ?_ | refine stm ?_ | refine Ja ?_ | refine Jb ?_ | refine Jc ?_ | refine Jd ?_ | refine Je ?_ | refine Jf ?_ | refine Jg ?_ | refine Jh ?_ ?_ | refine Ji ?_ ?_ | refine Jj ?_ ?_ | refine run_nil ?_ | refine Jz ?_ | refine Jw ?_ | refine aw_block ?_ | refine Jq ?_ | refine Jr ?_ | refine Js ?_ | refine Jt ?_ | refine Ju ?_ ?_ | refine Jv ?_ ?_ | refine Jy ?_ | refine aw_exit ?_ | refine aw_ret ?_ | refine pp_ret ?_ | refine pp_normal ?_
  all_goals first
    | rfl
    | (exfalso; omega)
    | (simp [retOf]; done)
    | (exfalso; simp_all; done)
    | (exfalso; simp only [Bool.not_eq_true', Bool.not_eq_false', decide_eq_true_eq, decide_eq_false_iff_not, Bool.not_false, Bool.not_true] at *; omega)
set_option maxHeartbeats 4000000 in
theorem ac_rEA1 (nm cd : ByteArray) (no : Int) (h : akB nm no cd = true) : ACalls Tryz.prog 42 [.agg #[.string nm, .int .i64 no, .string cd]] [] (.tuple #[.string (pkB (joB nm no false 0 cd)), .int .i64 0]) [] := by
  have HK := ac_AskForm nm no cd true h
  obtain ⟨g1, g2, g3⟩ := akB_t h
  have g4 := nmB_t g1
  have HE := ac_rencA nm cd no (by omega) (by omega) (by omega)
  obtain ⟨S, hS⟩ : ∃ S, pkB (joB nm no false 0 cd) = S := ⟨_, rfl⟩
  rw [hS] at HE ⊢
  clear hS
  refine acalls_law Tryz.func42 rfl rfl rfl ?_
  repeat' first | intro h1 | intro h1 | refine st (h := ok_not_dec2 rfl) ?_ | refine st ?_ | refine st_call (HK) ?_ | refine st_call (HE) ?_ | refine sd_call (HK) ?_ | refine sd_call (HE) ?_ | refine stm ?_ | refine Ja ?_ | refine Jb ?_ | refine Jc ?_ | refine Jd ?_ | refine Je ?_ | refine Jf ?_ | refine Jg ?_ | refine Jh ?_ ?_ | refine Ji ?_ ?_ | refine Jj ?_ ?_ | refine run_nil ?_ | refine Jz ?_ | refine Jw ?_ | refine aw_block ?_ | refine Jq ?_ | refine Jr ?_ | refine Js ?_ | refine Jt ?_ | refine Ju ?_ ?_ | refine Jv ?_ ?_ | refine Jy ?_ | refine aw_exit ?_ | refine aw_ret ?_ | refine pp_ret ?_ | refine pp_normal ?_
  all_goals first
    | rfl
    | (exfalso; omega)
    | (simp [retOf]; done)
    | (exfalso; simp_all; done)
    | (exfalso; simp only [Bool.not_eq_true', Bool.not_eq_false', decide_eq_true_eq, decide_eq_false_iff_not, Bool.not_false, Bool.not_true] at *; omega)
set_option maxHeartbeats 4000000 in
theorem ac_rEB0 (nm cd : ByteArray) (no nd : Int) (h : anB nm no nd cd = false) : ACalls Tryz.prog 44 [.agg #[.string nm, .int .i64 no, .int .i64 nd, .string cd]] [] (.tuple #[.string ⟨#[]⟩, .int .i64 1]) [] := by
  have HK := ac_AnswerForm nm no nd cd false h
  refine acalls_law Tryz.func44 rfl rfl rfl ?_
  repeat' first | intro h1 | intro h1 | refine st (h := ok_not_dec2 rfl) ?_ | refine st ?_ | refine st_call (HK) ?_ | refine st_call (HE) ?_ | refine sd_call (HK) ?_ | refine sd_call (HE) ?_ | refine stm ?_ | refine Ja ?_ | refine Jb ?_ | refine Jc ?_ | refine Jd ?_ | refine Je ?_ | refine Jf ?_ | refine Jg ?_ | refine Jh ?_ ?_ | refine Ji ?_ ?_ | refine Jj ?_ ?_ | refine run_nil ?_ | refine Jz ?_ | refine Jw ?_ | refine aw_block ?_ | refine Jq ?_ | refine Jr ?_ | refine Js ?_ | refine Jt ?_ | refine Ju ?_ ?_ | refine Jv ?_ ?_ | refine Jy ?_ | refine aw_exit ?_ | refine aw_ret ?_ | refine pp_ret ?_ | refine pp_normal ?_
  all_goals first
    | rfl
    | (exfalso; omega)
    | (simp [retOf]; done)
    | (exfalso; simp_all; done)
    | (exfalso; simp only [Bool.not_eq_true', Bool.not_eq_false', decide_eq_true_eq, decide_eq_false_iff_not, Bool.not_false, Bool.not_true] at *; omega)
set_option maxHeartbeats 4000000 in
theorem ac_rEB1 (nm cd : ByteArray) (no nd : Int) (h : anB nm no nd cd = true) : ACalls Tryz.prog 44 [.agg #[.string nm, .int .i64 no, .int .i64 nd, .string cd]] [] (.tuple #[.string (pkB (joB nm no true nd cd)), .int .i64 0]) [] := by
  have HK := ac_AnswerForm nm no nd cd true h
  obtain ⟨g1, g2, g3⟩ := akB_t (anB_t h).1
  have g4 := nmB_t g1
  have g5 := (anB_t h).2
  have HE := ac_rencB nm cd no nd (by omega) (by omega) (by omega) (by omega)
  obtain ⟨S, hS⟩ : ∃ S, pkB (joB nm no true nd cd) = S := ⟨_, rfl⟩
  rw [hS] at HE ⊢
  clear hS
  refine acalls_law Tryz.func44 rfl rfl rfl ?_
  repeat' first | intro h1 | intro h1 | refine st (h := ok_not_dec2 rfl) ?_ | refine st ?_ | refine st_call (HK) ?_ | refine st_call (HE) ?_ | refine sd_call (HK) ?_ | refine sd_call (HE) ?_ | refine stm ?_ | refine Ja ?_ | refine Jb ?_ | refine Jc ?_ | refine Jd ?_ | refine Je ?_ | refine Jf ?_ | refine Jg ?_ | refine Jh ?_ ?_ | refine Ji ?_ ?_ | refine Jj ?_ ?_ | refine run_nil ?_ | refine Jz ?_ | refine Jw ?_ | refine aw_block ?_ | refine Jq ?_ | refine Jr ?_ | refine Js ?_ | refine Jt ?_ | refine Ju ?_ ?_ | refine Jv ?_ ?_ | refine Jy ?_ | refine aw_exit ?_ | refine aw_ret ?_ | refine pp_ret ?_ | refine pp_normal ?_
  all_goals first
    | rfl
    | (exfalso; omega)
    | (simp [retOf]; done)
    | (exfalso; simp_all; done)
    | (exfalso; simp only [Bool.not_eq_true', Bool.not_eq_false', decide_eq_true_eq, decide_eq_false_iff_not, Bool.not_false, Bool.not_true] at *; omega)
set_option maxHeartbeats 4000000 in
theorem ac_rDA0 (d : ByteArray) (nm cd : ByteArray) (no nd : Int) (ok : Bool) (H : ACalls Tryz.prog 92 [.string d] [] (.tuple #[.agg #[.string nm, .int .i64 no, .string cd], .int .i64 nd, .bool ok]) [])  (h : (ok && decide (nd ≤ 0)) = false) : ACalls Tryz.prog 46 [.string d] [] (.tuple #[.agg #[.string ⟨#[]⟩, .int .i64 0, .string ⟨#[]⟩], .int .i64 10]) [] := by
  cases ok with
  | false =>
    refine acalls_law Tryz.func46 rfl rfl rfl ?_
    repeat' first | intro h1 | intro h1 | refine st (h := ok_not_dec2 rfl) ?_ | refine st ?_ | refine st_call (H) ?_ | refine st_call (HK) ?_ | refine sd_call (H) ?_ | refine sd_call (HK) ?_ | refine stm ?_ | refine Ja ?_ | refine Jb ?_ | refine Jc ?_ | refine Jd ?_ | refine Je ?_ | refine Jf ?_ | refine Jg ?_ | refine Jh ?_ ?_ | refine Ji ?_ ?_ | refine Jj ?_ ?_ | refine run_nil ?_ | refine Jz ?_ | refine Jw ?_ | refine aw_block ?_ | refine Jq ?_ | refine Jr ?_ | refine Js ?_ | refine Jt ?_ | refine Ju ?_ ?_ | refine Jv ?_ ?_ | refine Jy ?_ | refine aw_exit ?_ | refine aw_ret ?_ | refine pp_ret ?_ | refine pp_normal ?_
    all_goals first
      | rfl
      | (exfalso; omega)
      | (simp [retOf]; done)
      | (exfalso; simp_all; done)
      | (exfalso; simp only [Bool.not_eq_true', Bool.not_eq_false', decide_eq_true_eq, decide_eq_false_iff_not, Bool.not_false, Bool.not_true] at *; omega)
  | true =>
  rw [Bool.true_and] at h
  have h := of_decide_eq_false h
  refine acalls_law Tryz.func46 rfl rfl rfl ?_
  repeat' first | intro h1 | intro h1 | refine st (h := ok_not_dec2 rfl) ?_ | refine st ?_ | refine st_call (H) ?_ | refine st_call (HK) ?_ | refine sd_call (H) ?_ | refine sd_call (HK) ?_ | refine stm ?_ | refine Ja ?_ | refine Jb ?_ | refine Jc ?_ | refine Jd ?_ | refine Je ?_ | refine Jf ?_ | refine Jg ?_ | refine Jh ?_ ?_ | refine Ji ?_ ?_ | refine Jj ?_ ?_ | refine run_nil ?_ | refine Jz ?_ | refine Jw ?_ | refine aw_block ?_ | refine Jq ?_ | refine Jr ?_ | refine Js ?_ | refine Jt ?_ | refine Ju ?_ ?_ | refine Jv ?_ ?_ | refine Jy ?_ | refine aw_exit ?_ | refine aw_ret ?_ | refine pp_ret ?_ | refine pp_normal ?_
  all_goals first
    | rfl
    | (exfalso; omega)
    | (simp [retOf]; done)
    | (exfalso; simp_all; done)
    | (exfalso; simp only [Bool.not_eq_true', Bool.not_eq_false', decide_eq_true_eq, decide_eq_false_iff_not, Bool.not_false, Bool.not_true] at *; omega)
set_option maxHeartbeats 4000000 in
theorem ac_rDA1 (d : ByteArray) (nm cd : ByteArray) (no nd : Int) (ok : Bool) (H : ACalls Tryz.prog 92 [.string d] [] (.tuple #[.agg #[.string nm, .int .i64 no, .string cd], .int .i64 nd, .bool ok]) [])  (h : (ok && decide (nd ≤ 0)) = true) : ACalls Tryz.prog 46 [.string d] [] (.tuple #[.agg #[.string nm, .int .i64 no, .string cd], .int .i64 0]) [] := by
  obtain ⟨k1, k2⟩ := and_t h
  have k2 := of_decide_eq_true k2
  subst k1
  clear h
  refine acalls_law Tryz.func46 rfl rfl rfl ?_
  repeat' first | intro h1 | intro h1 | refine st (h := ok_not_dec2 rfl) ?_ | refine st ?_ | refine st_call (H) ?_ | refine st_call (HK) ?_ | refine sd_call (H) ?_ | refine sd_call (HK) ?_ | refine stm ?_ | refine Ja ?_ | refine Jb ?_ | refine Jc ?_ | refine Jd ?_ | refine Je ?_ | refine Jf ?_ | refine Jg ?_ | refine Jh ?_ ?_ | refine Ji ?_ ?_ | refine Jj ?_ ?_ | refine run_nil ?_ | refine Jz ?_ | refine Jw ?_ | refine aw_block ?_ | refine Jq ?_ | refine Jr ?_ | refine Js ?_ | refine Jt ?_ | refine Ju ?_ ?_ | refine Jv ?_ ?_ | refine Jy ?_ | refine aw_exit ?_ | refine aw_ret ?_ | refine pp_ret ?_ | refine pp_normal ?_
  all_goals first
    | rfl
    | (exfalso; omega)
    | (simp [retOf]; done)
    | (exfalso; simp_all; done)
    | (exfalso; simp only [Bool.not_eq_true', Bool.not_eq_false', decide_eq_true_eq, decide_eq_false_iff_not, Bool.not_false, Bool.not_true] at *; omega)
set_option maxHeartbeats 4000000 in
theorem ac_rDB0 (d : ByteArray) (nm cd : ByteArray) (no nd : Int) (ok : Bool) (H : ACalls Tryz.prog 92 [.string d] [] (.tuple #[.agg #[.string nm, .int .i64 no, .string cd], .int .i64 nd, .bool ok]) [])  (h : (ok && decide (nd ≠ 0)) = false) : ACalls Tryz.prog 48 [.string d] [] (.tuple #[.agg #[.string ⟨#[]⟩, .int .i64 0, .int .i64 0, .string ⟨#[]⟩], .int .i64 10]) [] := by
  cases ok with
  | false =>
    refine acalls_law Tryz.func48 rfl rfl rfl ?_
    repeat' first | intro h1 | intro h1 | refine st (h := ok_not_dec2 rfl) ?_ | refine st ?_ | refine st_call (H) ?_ | refine st_call (HK) ?_ | refine sd_call (H) ?_ | refine sd_call (HK) ?_ | refine stm ?_ | refine Ja ?_ | refine Jb ?_ | refine Jc ?_ | refine Jd ?_ | refine Je ?_ | refine Jf ?_ | refine Jg ?_ | refine Jh ?_ ?_ | refine Ji ?_ ?_ | refine Jj ?_ ?_ | refine run_nil ?_ | refine Jz ?_ | refine Jw ?_ | refine aw_block ?_ | refine Jq ?_ | refine Jr ?_ | refine Js ?_ | refine Jt ?_ | refine Ju ?_ ?_ | refine Jv ?_ ?_ | refine Jy ?_ | refine aw_exit ?_ | refine aw_ret ?_ | refine pp_ret ?_ | refine pp_normal ?_
    all_goals first
      | rfl
      | (exfalso; omega)
      | (simp [retOf]; done)
      | (exfalso; simp_all; done)
      | (exfalso; simp only [Bool.not_eq_true', Bool.not_eq_false', decide_eq_true_eq, decide_eq_false_iff_not, Bool.not_false, Bool.not_true] at *; omega)
  | true =>
  rw [Bool.true_and] at h
  have h := of_decide_eq_false h
  refine acalls_law Tryz.func48 rfl rfl rfl ?_
  repeat' first | intro h1 | intro h1 | refine st (h := ok_not_dec2 rfl) ?_ | refine st ?_ | refine st_call (H) ?_ | refine st_call (HK) ?_ | refine sd_call (H) ?_ | refine sd_call (HK) ?_ | refine stm ?_ | refine Ja ?_ | refine Jb ?_ | refine Jc ?_ | refine Jd ?_ | refine Je ?_ | refine Jf ?_ | refine Jg ?_ | refine Jh ?_ ?_ | refine Ji ?_ ?_ | refine Jj ?_ ?_ | refine run_nil ?_ | refine Jz ?_ | refine Jw ?_ | refine aw_block ?_ | refine Jq ?_ | refine Jr ?_ | refine Js ?_ | refine Jt ?_ | refine Ju ?_ ?_ | refine Jv ?_ ?_ | refine Jy ?_ | refine aw_exit ?_ | refine aw_ret ?_ | refine pp_ret ?_ | refine pp_normal ?_
  all_goals first
    | rfl
    | (exfalso; omega)
    | (simp [retOf]; done)
    | (exfalso; simp_all; done)
    | (exfalso; simp only [Bool.not_eq_true', Bool.not_eq_false', decide_eq_true_eq, decide_eq_false_iff_not, Bool.not_false, Bool.not_true] at *; omega)
set_option maxHeartbeats 4000000 in
theorem ac_rDB1 (d : ByteArray) (nm cd : ByteArray) (no nd : Int) (ok : Bool) (H : ACalls Tryz.prog 92 [.string d] [] (.tuple #[.agg #[.string nm, .int .i64 no, .string cd], .int .i64 nd, .bool ok]) [])  (h : (ok && decide (nd ≠ 0)) = true) : ACalls Tryz.prog 48 [.string d] [] (.tuple #[.agg #[.string nm, .int .i64 no, .int .i64 nd, .string cd], .int .i64 0]) [] := by
  obtain ⟨k1, k2⟩ := and_t h
  have k2 := of_decide_eq_true k2
  subst k1
  clear h
  refine acalls_law Tryz.func48 rfl rfl rfl ?_
  repeat' first | intro h1 | intro h1 | refine st (h := ok_not_dec2 rfl) ?_ | refine st ?_ | refine st_call (H) ?_ | refine st_call (HK) ?_ | refine sd_call (H) ?_ | refine sd_call (HK) ?_ | refine stm ?_ | refine Ja ?_ | refine Jb ?_ | refine Jc ?_ | refine Jd ?_ | refine Je ?_ | refine Jf ?_ | refine Jg ?_ | refine Jh ?_ ?_ | refine Ji ?_ ?_ | refine Jj ?_ ?_ | refine run_nil ?_ | refine Jz ?_ | refine Jw ?_ | refine aw_block ?_ | refine Jq ?_ | refine Jr ?_ | refine Js ?_ | refine Jt ?_ | refine Ju ?_ ?_ | refine Jv ?_ ?_ | refine Jy ?_ | refine aw_exit ?_ | refine aw_ret ?_ | refine pp_ret ?_ | refine pp_normal ?_
  all_goals first
    | rfl
    | (exfalso; omega)
    | (simp [retOf]; done)
    | (exfalso; simp_all; done)
    | (exfalso; simp only [Bool.not_eq_true', Bool.not_eq_false', decide_eq_true_eq, decide_eq_false_iff_not, Bool.not_false, Bool.not_true] at *; omega)
theorem pr_encA (nm cd : ByteArray) (no : Int) : ∃ (s : ByteArray) (e : Int), ACalls Tryz.prog 41 [.agg #[.string nm, .int .i64 no, .string cd]] [] (.tuple #[.string s, .int .i64 e]) [] ∧ ACalls Tryz.prog 42 [.agg #[.string nm, .int .i64 no, .string cd]] [] (.tuple #[.string s, .int .i64 e]) [] := by
  cases h : akB nm no cd with
  | false => exact ⟨_, _, ac_jEA0 nm cd no h, ac_rEA0 nm cd no h⟩
  | true => exact ⟨_, _, ac_jEA1 nm cd no h, ac_rEA1 nm cd no h⟩
theorem pr_encB (nm cd : ByteArray) (no nd : Int) : ∃ (s : ByteArray) (e : Int), ACalls Tryz.prog 43 [.agg #[.string nm, .int .i64 no, .int .i64 nd, .string cd]] [] (.tuple #[.string s, .int .i64 e]) [] ∧ ACalls Tryz.prog 44 [.agg #[.string nm, .int .i64 no, .int .i64 nd, .string cd]] [] (.tuple #[.string s, .int .i64 e]) [] := by
  cases h : anB nm no nd cd with
  | false => exact ⟨_, _, ac_jEB0 nm cd no nd h, ac_rEB0 nm cd no nd h⟩
  | true => exact ⟨_, _, ac_jEB1 nm cd no nd h, ac_rEB1 nm cd no nd h⟩
/-- What Decode finds. -/
theorem pr_dec (d : ByteArray) (hd : d.size ≤ 1000) : ∃ (F ok k : Bool) (nm cd : ByteArray) (no nd : Int), akB nm no cd = k ∧ (F = true → 0 ≤ nd ∧ nd < 32) ∧ ACalls Tryz.prog 91 [.string d] [] (.tuple #[.agg #[.string nm, .int .i64 no, .int .i64 (cond F nd (-1)), .string cd], .bool ok]) [] ∧ ACalls Tryz.prog 92 [.string d] [] (.tuple #[.agg #[.string nm, .int .i64 no, .string cd], .int .i64 (cond F nd 0), .bool (ok && (k && cond F (decide (0 < nd)) (decide ((0 : Int) ≤ 0))))]) [] := by
  obtain ⟨F, a1, e1, h1⟩ : ∃ F a1 e1, flgR d 0 0 = (F, a1, e1) := ⟨_, _, _, rfl⟩
  obtain ⟨t, a2, e2, h2⟩ : ∃ t a2 e2, txtR d a1 e1 32 = (t, a2, e2) := ⟨_, _, _, rfl⟩
  obtain ⟨no, a3, e3, h3⟩ : ∃ no a3 e3, unsR d a2 e2 31 = (no, a3, e3) := ⟨_, _, _, rfl⟩
  cases F with
  | false =>
    obtain ⟨L, a5, e5, h5⟩ : ∃ L a5 e5, cdR d a3 e3 8 = (L, a5, e5) := ⟨_, _, _, rfl⟩
    exact ⟨false, decide (closeR d a5 e5 = 0), _, t, ⟨(L.map b8).toArray⟩, no, 0, rfl, (fun h => by cases h), ac_jdecA d hd a1 a2 a3 a5 e1 e2 e3 e5 no _ t L h1 h2 h3 h5 rfl, ac_rdecA d hd a1 a2 a3 a5 e1 e2 e3 e5 no _ t L h1 h2 h3 h5 rfl _ rfl⟩
  | true =>
    obtain ⟨nd, a4, e4, h4⟩ : ∃ nd a4 e4, unsR d a3 e3 5 = (nd, a4, e4) := ⟨_, _, _, rfl⟩
    obtain ⟨L, a5, e5, h5⟩ : ∃ L a5 e5, cdR d a4 e4 8 = (L, a5, e5) := ⟨_, _, _, rfl⟩
    have hn := unsR_rng h4 (by decide)
    rw [show ((2 : Int) ^ (5 : Int).toNat) = 32 from rfl] at hn
    exact ⟨true, decide (closeR d a5 e5 = 0), _, t, ⟨(L.map b8).toArray⟩, no, nd, rfl, fun _ => hn, ac_jdecB d hd a1 a2 a3 a4 a5 e1 e2 e3 e4 e5 no nd _ t L h1 h2 h3 h4 h5 rfl, ac_rdecB d hd a1 a2 a3 a4 a5 e1 e2 e3 e4 e5 no nd _ t L h1 h2 h3 h4 h5 rfl _ rfl⟩
theorem pr_decA (d : ByteArray) (hd : d.size ≤ 1000) : ∃ (nm cd : ByteArray) (no e : Int), ACalls Tryz.prog 45 [.string d] [] (.tuple #[.agg #[.string nm, .int .i64 no, .string cd], .int .i64 e]) [] ∧ ACalls Tryz.prog 46 [.string d] [] (.tuple #[.agg #[.string nm, .int .i64 no, .string cd], .int .i64 e]) [] := by
  obtain ⟨F, ok, k, nm, cd, no, nd, hk, hF, H1, H2⟩ := pr_dec d hd
  have HK := ac_asks nm no cd k hk
  cases hr : (ok && (!F && k)) with
  | false =>
    have h1 := ac_jDA0 d nm cd no (cond F nd (-1)) ok k H1 HK (by
      cases F with
      | false => simpa using hr
      | true =>
        have := (hF rfl).1
        rw [decide_eq_false (show ¬ cond true nd (-1) = -1 by simp only [cond_true]; omega)]
        simp)
    have h2 := ac_rDA0 d nm cd no (cond F nd 0) _ H2 (by
      cases F with
      | false => cases ok <;> cases k <;> simp_all
      | true =>
        simp only [cond_true]
        by_cases h : 0 < nd
        · rw [decide_eq_false (show ¬ nd ≤ 0 by omega)]
          simp
        · rw [decide_eq_false h]
          simp)
    exact ⟨_, _, _, _, h1, h2⟩
  | true =>
    cases F with
    | true => simp at hr
    | false =>
      have h1 := ac_jDA1 d nm cd no (-1) ok k H1 HK (by simpa using hr)
      have h2 := ac_rDA1 d nm cd no 0 _ H2 (by cases ok <;> cases k <;> simp_all)
      exact ⟨_, _, _, _, h1, h2⟩
theorem pr_decB (d : ByteArray) (hd : d.size ≤ 1000) : ∃ (nm cd : ByteArray) (no nd e : Int), ACalls Tryz.prog 47 [.string d] [] (.tuple #[.agg #[.string nm, .int .i64 no, .int .i64 nd, .string cd], .int .i64 e]) [] ∧ ACalls Tryz.prog 48 [.string d] [] (.tuple #[.agg #[.string nm, .int .i64 no, .int .i64 nd, .string cd], .int .i64 e]) [] := by
  obtain ⟨F, ok, k, nm, cd, no, nd, hk, hF, H1, H2⟩ := pr_dec d hd
  have HK := ac_ansF nm no (cond F nd (-1)) cd _ rfl
  have ha : anB nm no (cond F nd (-1)) cd = (k && (F && decide (0 < nd))) := by
    unfold anB
    rw [hk]
    cases F with
    | false => simp
    | true =>
      have := hF rfl
      simp only [cond_true, Bool.true_and]
      congr 1
      exact decide_eq_decide.2 (by omega)
  rw [ha] at HK
  cases hr : (ok && (k && (F && decide (0 < nd)))) with
  | false =>
    have h1 := ac_jDB0 d nm cd no (cond F nd (-1)) ok _ H1 HK hr
    have h2 := ac_rDB0 d nm cd no (cond F nd 0) _ H2 (by
      cases F with
      | false => simp
      | true =>
        simp only [cond_true]
        simp only [Bool.true_and] at hr
        rw [hr]
        rfl)
    exact ⟨_, _, _, _, _, h1, h2⟩
  | true =>
    cases F with
    | false => simp at hr
    | true =>
      have h1 := ac_jDB1 d nm cd no nd ok _ H1 HK hr
      have h2 := ac_rDB1 d nm cd no nd _ H2 (by
        simp only [cond_true]
        simp only [Bool.true_and] at hr
        rw [hr, Bool.true_and]
        obtain ⟨_, hr⟩ := and_t hr
        obtain ⟨_, hr⟩ := and_t hr
        have := of_decide_eq_true hr
        exact decide_eq_true (by omega))
      exact ⟨_, _, _, _, _, h1, h2⟩
set_option maxHeartbeats 16000000 in
theorem law_bytes (nm cd : ByteArray) (no : Int) (nm' cd' : ByteArray) (no' nd' : Int) (d : ByteArray) : ACalls Tryz.prog 9 [.agg #[.string nm, .int .i64 no, .string cd], .agg #[.string nm', .int .i64 no', .int .i64 nd', .string cd'], .string d] [] (.bool true) [] := by
  have HK := ac_awake
  by_cases h1 : nm.size ≤ 60
  case neg =>
    refine acalls_law Tryz.func9 rfl rfl rfl ?_
    repeat' first | intro h1 | intro h1 | refine st (h := ok_not_dec2 rfl) ?_ | refine st ?_ | refine st_call (HK) ?_ | refine sd_call (HK) ?_ | refine stm ?_ | refine Ja ?_ | refine Jb ?_ | refine Jc ?_ | refine Jd ?_ | refine Je ?_ | refine Jf ?_ | refine Jg ?_ | refine Jh ?_ ?_ | refine Ji ?_ ?_ | refine Jj ?_ ?_ | refine run_nil ?_ | refine Jz ?_ | refine Jw ?_ | refine aw_block ?_ | refine Jq ?_ | refine Jr ?_ | refine Js ?_ | refine Jt ?_ | refine Ju ?_ ?_ | refine Jv ?_ ?_ | refine Jy ?_ | refine aw_exit ?_ | refine aw_ret ?_ | refine pp_ret ?_ | refine pp_normal ?_
    all_goals first
      | rfl
      | (exfalso; omega)
      | (simp [retOf]; done)
      | (exfalso; simp_all; done)
      | (exfalso; simp only [Bool.not_eq_true', Bool.not_eq_false', decide_eq_true_eq, decide_eq_false_iff_not, Bool.not_false, Bool.not_true] at *; omega)
  by_cases h2 : cd.size ≤ 60
  case neg =>
    refine acalls_law Tryz.func9 rfl rfl rfl ?_
    repeat' first | intro h1 | intro h1 | refine st (h := ok_not_dec2 rfl) ?_ | refine st ?_ | refine st_call (HK) ?_ | refine sd_call (HK) ?_ | refine stm ?_ | refine Ja ?_ | refine Jb ?_ | refine Jc ?_ | refine Jd ?_ | refine Je ?_ | refine Jf ?_ | refine Jg ?_ | refine Jh ?_ ?_ | refine Ji ?_ ?_ | refine Jj ?_ ?_ | refine run_nil ?_ | refine Jz ?_ | refine Jw ?_ | refine aw_block ?_ | refine Jq ?_ | refine Jr ?_ | refine Js ?_ | refine Jt ?_ | refine Ju ?_ ?_ | refine Jv ?_ ?_ | refine Jy ?_ | refine aw_exit ?_ | refine aw_ret ?_ | refine pp_ret ?_ | refine pp_normal ?_
    all_goals first
      | rfl
      | (exfalso; omega)
      | (simp [retOf]; done)
      | (exfalso; simp_all; done)
      | (exfalso; simp only [Bool.not_eq_true', Bool.not_eq_false', decide_eq_true_eq, decide_eq_false_iff_not, Bool.not_false, Bool.not_true] at *; omega)
  by_cases h3 : nm'.size ≤ 60
  case neg =>
    refine acalls_law Tryz.func9 rfl rfl rfl ?_
    repeat' first | intro h1 | intro h1 | refine st (h := ok_not_dec2 rfl) ?_ | refine st ?_ | refine st_call (HK) ?_ | refine sd_call (HK) ?_ | refine stm ?_ | refine Ja ?_ | refine Jb ?_ | refine Jc ?_ | refine Jd ?_ | refine Je ?_ | refine Jf ?_ | refine Jg ?_ | refine Jh ?_ ?_ | refine Ji ?_ ?_ | refine Jj ?_ ?_ | refine run_nil ?_ | refine Jz ?_ | refine Jw ?_ | refine aw_block ?_ | refine Jq ?_ | refine Jr ?_ | refine Js ?_ | refine Jt ?_ | refine Ju ?_ ?_ | refine Jv ?_ ?_ | refine Jy ?_ | refine aw_exit ?_ | refine aw_ret ?_ | refine pp_ret ?_ | refine pp_normal ?_
    all_goals first
      | rfl
      | (exfalso; omega)
      | (simp [retOf]; done)
      | (exfalso; simp_all; done)
      | (exfalso; simp only [Bool.not_eq_true', Bool.not_eq_false', decide_eq_true_eq, decide_eq_false_iff_not, Bool.not_false, Bool.not_true] at *; omega)
  by_cases h4 : cd'.size ≤ 60
  case neg =>
    refine acalls_law Tryz.func9 rfl rfl rfl ?_
    repeat' first | intro h1 | intro h1 | refine st (h := ok_not_dec2 rfl) ?_ | refine st ?_ | refine st_call (HK) ?_ | refine sd_call (HK) ?_ | refine stm ?_ | refine Ja ?_ | refine Jb ?_ | refine Jc ?_ | refine Jd ?_ | refine Je ?_ | refine Jf ?_ | refine Jg ?_ | refine Jh ?_ ?_ | refine Ji ?_ ?_ | refine Jj ?_ ?_ | refine run_nil ?_ | refine Jz ?_ | refine Jw ?_ | refine aw_block ?_ | refine Jq ?_ | refine Jr ?_ | refine Js ?_ | refine Jt ?_ | refine Ju ?_ ?_ | refine Jv ?_ ?_ | refine Jy ?_ | refine aw_exit ?_ | refine aw_ret ?_ | refine pp_ret ?_ | refine pp_normal ?_
    all_goals first
      | rfl
      | (exfalso; omega)
      | (simp [retOf]; done)
      | (exfalso; simp_all; done)
      | (exfalso; simp only [Bool.not_eq_true', Bool.not_eq_false', decide_eq_true_eq, decide_eq_false_iff_not, Bool.not_false, Bool.not_true] at *; omega)
  by_cases h5 : d.size ≤ 100
  case neg =>
    refine acalls_law Tryz.func9 rfl rfl rfl ?_
    repeat' first | intro h1 | intro h1 | refine st (h := ok_not_dec2 rfl) ?_ | refine st ?_ | refine st_call (HK) ?_ | refine sd_call (HK) ?_ | refine stm ?_ | refine Ja ?_ | refine Jb ?_ | refine Jc ?_ | refine Jd ?_ | refine Je ?_ | refine Jf ?_ | refine Jg ?_ | refine Jh ?_ ?_ | refine Ji ?_ ?_ | refine Jj ?_ ?_ | refine run_nil ?_ | refine Jz ?_ | refine Jw ?_ | refine aw_block ?_ | refine Jq ?_ | refine Jr ?_ | refine Js ?_ | refine Jt ?_ | refine Ju ?_ ?_ | refine Jv ?_ ?_ | refine Jy ?_ | refine aw_exit ?_ | refine aw_ret ?_ | refine pp_ret ?_ | refine pp_normal ?_
    all_goals first
      | rfl
      | (exfalso; omega)
      | (simp [retOf]; done)
      | (exfalso; simp_all; done)
      | (exfalso; simp only [Bool.not_eq_true', Bool.not_eq_false', decide_eq_true_eq, decide_eq_false_iff_not, Bool.not_false, Bool.not_true] at *; omega)
  obtain ⟨s1, e1, H1, H2⟩ := pr_encA nm cd no
  obtain ⟨s2, e2, H3, H4⟩ := pr_encB nm' cd' no' nd'
  obtain ⟨n3, c3, o3, e3, H5, H6⟩ := pr_decA d (by omega)
  obtain ⟨n4, c4, o4, d4, e4, H7, H8⟩ := pr_decB d (by omega)
  refine acalls_law Tryz.func9 rfl rfl rfl ?_
  repeat' first | intro h1 | intro h1 | refine st (h := ok_not_dec2 rfl) ?_ | refine st (h := ok_agg_eqlT rfl rfl (by ((repeat constructor); first | done | fail)) (by simp)) ?_ | refine sd (h := ok_agg_eqlT rfl rfl (by ((repeat constructor); first | done | fail)) (by simp)) ?_ | refine st (h := ok_str_neqE rfl rfl (decide_eq_true rfl)) ?_ | refine sd (h := ok_str_neqE rfl rfl (decide_eq_true rfl)) ?_ | refine st ?_ | refine st_call (HK) ?_ | refine st_call (H1) ?_ | refine st_call (H2) ?_ | refine st_call (H3) ?_ | refine st_call (H4) ?_ | refine st_call (H5) ?_ | refine st_call (H6) ?_ | refine st_call (H7) ?_ | refine st_call (H8) ?_ | refine sd_call (HK) ?_ | refine sd_call (H1) ?_ | refine sd_call (H2) ?_ | refine sd_call (H3) ?_ | refine sd_call (H4) ?_ | refine sd_call (H5) ?_ | refine sd_call (H6) ?_ | refine sd_call (H7) ?_ | refine sd_call (H8) ?_ | refine stm ?_ | refine Ja ?_ | refine Jb ?_ | refine Jc ?_ | refine Jd ?_ | refine Je ?_ | refine Jf ?_ | refine Jg ?_ | refine Jh ?_ ?_ | refine Ji ?_ ?_ | refine Jj ?_ ?_ | refine run_nil ?_ | refine Jz ?_ | refine Jw ?_ | refine aw_block ?_ | refine Jq ?_ | refine Jr ?_ | refine Js ?_ | refine Jt ?_ | refine Ju ?_ ?_ | refine Jv ?_ ?_ | refine Jy ?_ | refine aw_exit ?_ | refine aw_ret ?_ | refine pp_ret ?_ | refine pp_normal ?_
  all_goals first
    | rfl
    | (exfalso; omega)
    | (simp [retOf]; done)
    | (exfalso; simp_all; done)
    | (exfalso; simp only [Bool.not_eq_true', Bool.not_eq_false', decide_eq_true_eq, decide_eq_false_iff_not, Bool.not_false, Bool.not_true] at *; omega)
end Go.Proofs.YtdbcbclapipgdaaGreatDoor
