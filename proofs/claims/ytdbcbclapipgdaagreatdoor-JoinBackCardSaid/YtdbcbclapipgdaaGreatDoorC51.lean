/- Join: requests and answers, written and read. -/
import Derived.Test.YtdbcbclapipgdaaGreatDoorVO
import Derived.Test.YtdbcbclapipgdaaGreatDoorJ
import Derived.Test.YtdbcbclapipgdaaGreatDoorC22
import Derived.Test.YtdbcbclapipgdaaGreatDoorC48
set_option linter.unusedVariables false
set_option linter.unusedSimpArgs false
namespace Go.Proofs.YtdbcbclapipgdaaGreatDoor
open Go Av
set_option maxRecDepth 20000
set_option maxHeartbeats 4000000 in
theorem ac_jEA0 (nm cd : ByteArray) (no : Int) (h : akB nm no cd = false) : ACalls Tryz.prog 41 [.agg #[.string nm, .int .i64 no, .string cd]] [] (.tuple #[.string ⟨#[]⟩, .int .i64 1]) [] := by
  have HK := ac_asks nm no cd false h
  refine acalls_law Tryz.func41 rfl rfl rfl ?_
  repeat' first | intro h1 | intro h1 | refine st (h := ok_not_dec2 rfl) ?_ | refine st ?_ | refine st_call (HK) ?_ | refine st_call (HE) ?_ | refine sd_call (HK) ?_ | refine sd_call (HE) ?_ | refine stm ?_ | refine Ja ?_ | refine Jb ?_ | refine Jc ?_ | refine Jd ?_ | refine Je ?_ | refine Jf ?_ | refine Jg ?_ | refine Jh ?_ ?_ | refine Ji ?_ ?_ | refine Jj ?_ ?_ | refine run_nil ?_ | refine Jz ?_ | refine Jw ?_ | refine aw_block ?_ | refine Jq ?_ | refine Jr ?_ | refine Js ?_ | refine Jt ?_ | refine Ju ?_ ?_ | refine Jv ?_ ?_ | refine Jy ?_ | refine aw_exit ?_ | refine aw_ret ?_ | refine pp_ret ?_ | refine pp_normal ?_
  all_goals first
    | rfl
    | (exfalso; omega)
    | (simp [retOf]; done)
    | (exfalso; simp_all; done)
    | (exfalso; simp only [Bool.not_eq_true', Bool.not_eq_false', decide_eq_true_eq, decide_eq_false_iff_not, Bool.not_false, Bool.not_true] at *; omega)
set_option maxHeartbeats 4000000 in
theorem ac_jEA1 (nm cd : ByteArray) (no : Int) (h : akB nm no cd = true) : ACalls Tryz.prog 41 [.agg #[.string nm, .int .i64 no, .string cd]] [] (.tuple #[.string (pkB (joB nm no false 0 cd)), .int .i64 0]) [] := by
  have HK := ac_asks nm no cd true h
  obtain ⟨g1, g2, g3⟩ := akB_t h
  have g4 := nmB_t g1
  have HE := ac_jencA nm cd no (by omega) (by omega) (by omega)
  obtain ⟨S, hS⟩ : ∃ S, pkB (joB nm no false 0 cd) = S := ⟨_, rfl⟩
  rw [hS] at HE ⊢
  clear hS
  refine acalls_law Tryz.func41 rfl rfl rfl ?_
  repeat' first | intro h1 | intro h1 | refine st (h := ok_not_dec2 rfl) ?_ | refine st ?_ | refine st_call (HK) ?_ | refine st_call (HE) ?_ | refine sd_call (HK) ?_ | refine sd_call (HE) ?_ | refine stm ?_ | refine Ja ?_ | refine Jb ?_ | refine Jc ?_ | refine Jd ?_ | refine Je ?_ | refine Jf ?_ | refine Jg ?_ | refine Jh ?_ ?_ | refine Ji ?_ ?_ | refine Jj ?_ ?_ | refine run_nil ?_ | refine Jz ?_ | refine Jw ?_ | refine aw_block ?_ | refine Jq ?_ | refine Jr ?_ | refine Js ?_ | refine Jt ?_ | refine Ju ?_ ?_ | refine Jv ?_ ?_ | refine Jy ?_ | refine aw_exit ?_ | refine aw_ret ?_ | refine pp_ret ?_ | refine pp_normal ?_
  all_goals first
    | rfl
    | (exfalso; omega)
    | (simp [retOf]; done)
    | (exfalso; simp_all; done)
    | (exfalso; simp only [Bool.not_eq_true', Bool.not_eq_false', decide_eq_true_eq, decide_eq_false_iff_not, Bool.not_false, Bool.not_true] at *; omega)
set_option maxHeartbeats 4000000 in
theorem ac_jEB0 (nm cd : ByteArray) (no nd : Int) (h : anB nm no nd cd = false) : ACalls Tryz.prog 43 [.agg #[.string nm, .int .i64 no, .int .i64 nd, .string cd]] [] (.tuple #[.string ⟨#[]⟩, .int .i64 1]) [] := by
  have HK := ac_ansF nm no nd cd false h
  refine acalls_law Tryz.func43 rfl rfl rfl ?_
  repeat' first | intro h1 | intro h1 | refine st (h := ok_not_dec2 rfl) ?_ | refine st ?_ | refine st_call (HK) ?_ | refine st_call (HE) ?_ | refine sd_call (HK) ?_ | refine sd_call (HE) ?_ | refine stm ?_ | refine Ja ?_ | refine Jb ?_ | refine Jc ?_ | refine Jd ?_ | refine Je ?_ | refine Jf ?_ | refine Jg ?_ | refine Jh ?_ ?_ | refine Ji ?_ ?_ | refine Jj ?_ ?_ | refine run_nil ?_ | refine Jz ?_ | refine Jw ?_ | refine aw_block ?_ | refine Jq ?_ | refine Jr ?_ | refine Js ?_ | refine Jt ?_ | refine Ju ?_ ?_ | refine Jv ?_ ?_ | refine Jy ?_ | refine aw_exit ?_ | refine aw_ret ?_ | refine pp_ret ?_ | refine pp_normal ?_
  all_goals first
    | rfl
    | (exfalso; omega)
    | (simp [retOf]; done)
    | (exfalso; simp_all; done)
    | (exfalso; simp only [Bool.not_eq_true', Bool.not_eq_false', decide_eq_true_eq, decide_eq_false_iff_not, Bool.not_false, Bool.not_true] at *; omega)
set_option maxHeartbeats 4000000 in
theorem ac_jEB1 (nm cd : ByteArray) (no nd : Int) (h : anB nm no nd cd = true) : ACalls Tryz.prog 43 [.agg #[.string nm, .int .i64 no, .int .i64 nd, .string cd]] [] (.tuple #[.string (pkB (joB nm no true nd cd)), .int .i64 0]) [] := by
  have HK := ac_ansF nm no nd cd true h
  obtain ⟨g1, g2, g3⟩ := akB_t (anB_t h).1
  have g4 := nmB_t g1
  have g5 := (anB_t h).2
  have HE := ac_jencB nm cd no nd (by omega) (by omega) (by omega) (by omega)
  obtain ⟨S, hS⟩ : ∃ S, pkB (joB nm no true nd cd) = S := ⟨_, rfl⟩
  rw [hS] at HE ⊢
  clear hS
  refine acalls_law Tryz.func43 rfl rfl rfl ?_
  repeat' first | intro h1 | intro h1 | refine st (h := ok_not_dec2 rfl) ?_ | refine st ?_ | refine st_call (HK) ?_ | refine st_call (HE) ?_ | refine sd_call (HK) ?_ | refine sd_call (HE) ?_ | refine stm ?_ | refine Ja ?_ | refine Jb ?_ | refine Jc ?_ | refine Jd ?_ | refine Je ?_ | refine Jf ?_ | refine Jg ?_ | refine Jh ?_ ?_ | refine Ji ?_ ?_ | refine Jj ?_ ?_ | refine run_nil ?_ | refine Jz ?_ | refine Jw ?_ | refine aw_block ?_ | refine Jq ?_ | refine Jr ?_ | refine Js ?_ | refine Jt ?_ | refine Ju ?_ ?_ | refine Jv ?_ ?_ | refine Jy ?_ | refine aw_exit ?_ | refine aw_ret ?_ | refine pp_ret ?_ | refine pp_normal ?_
  all_goals first
    | rfl
    | (exfalso; omega)
    | (simp [retOf]; done)
    | (exfalso; simp_all; done)
    | (exfalso; simp only [Bool.not_eq_true', Bool.not_eq_false', decide_eq_true_eq, decide_eq_false_iff_not, Bool.not_false, Bool.not_true] at *; omega)
set_option maxHeartbeats 4000000 in
theorem ac_jDA0 (d : ByteArray) (nm cd : ByteArray) (no nd : Int) (ok k : Bool) (H : ACalls Tryz.prog 91 [.string d] [] (.tuple #[.agg #[.string nm, .int .i64 no, .int .i64 nd, .string cd], .bool ok]) []) (HK : ACalls Tryz.prog 63 [.agg #[.string nm, .int .i64 no, .string cd]] [] (.bool k) []) (h : (ok && (decide (nd = -1) && k)) = false) : ACalls Tryz.prog 45 [.string d] [] (.tuple #[.agg #[.string ⟨#[]⟩, .int .i64 0, .string ⟨#[]⟩], .int .i64 10]) [] := by
  cases ok with
  | false =>
    refine acalls_law Tryz.func45 rfl rfl rfl ?_
    repeat' first | intro h1 | intro h1 | refine st (h := ok_not_dec2 rfl) ?_ | refine st ?_ | refine st_call (H) ?_ | refine st_call (HK) ?_ | refine sd_call (H) ?_ | refine sd_call (HK) ?_ | refine stm ?_ | refine Ja ?_ | refine Jb ?_ | refine Jc ?_ | refine Jd ?_ | refine Je ?_ | refine Jf ?_ | refine Jg ?_ | refine Jh ?_ ?_ | refine Ji ?_ ?_ | refine Jj ?_ ?_ | refine run_nil ?_ | refine Jz ?_ | refine Jw ?_ | refine aw_block ?_ | refine Jq ?_ | refine Jr ?_ | refine Js ?_ | refine Jt ?_ | refine Ju ?_ ?_ | refine Jv ?_ ?_ | refine Jy ?_ | refine aw_exit ?_ | refine aw_ret ?_ | refine pp_ret ?_ | refine pp_normal ?_
    all_goals first
      | rfl
      | (exfalso; omega)
      | (simp [retOf]; done)
      | (exfalso; simp_all; done)
      | (exfalso; simp only [Bool.not_eq_true', Bool.not_eq_false', decide_eq_true_eq, decide_eq_false_iff_not, Bool.not_false, Bool.not_true] at *; omega)
  | true =>
  rw [Bool.true_and] at h
  by_cases hd : nd = -1
  · rw [decide_eq_true hd, Bool.true_and] at h
    subst h
    refine acalls_law Tryz.func45 rfl rfl rfl ?_
    repeat' first | intro h1 | intro h1 | refine st (h := ok_not_dec2 rfl) ?_ | refine st ?_ | refine st_call (H) ?_ | refine st_call (HK) ?_ | refine sd_call (H) ?_ | refine sd_call (HK) ?_ | refine stm ?_ | refine Ja ?_ | refine Jb ?_ | refine Jc ?_ | refine Jd ?_ | refine Je ?_ | refine Jf ?_ | refine Jg ?_ | refine Jh ?_ ?_ | refine Ji ?_ ?_ | refine Jj ?_ ?_ | refine run_nil ?_ | refine Jz ?_ | refine Jw ?_ | refine aw_block ?_ | refine Jq ?_ | refine Jr ?_ | refine Js ?_ | refine Jt ?_ | refine Ju ?_ ?_ | refine Jv ?_ ?_ | refine Jy ?_ | refine aw_exit ?_ | refine aw_ret ?_ | refine pp_ret ?_ | refine pp_normal ?_
    all_goals first
      | rfl
      | (exfalso; omega)
      | (simp [retOf]; done)
      | (exfalso; simp_all; done)
      | (exfalso; simp only [Bool.not_eq_true', Bool.not_eq_false', decide_eq_true_eq, decide_eq_false_iff_not, Bool.not_false, Bool.not_true] at *; omega)
  · clear h
    refine acalls_law Tryz.func45 rfl rfl rfl ?_
    repeat' first | intro h1 | intro h1 | refine st (h := ok_not_dec2 rfl) ?_ | refine st ?_ | refine st_call (H) ?_ | refine st_call (HK) ?_ | refine sd_call (H) ?_ | refine sd_call (HK) ?_ | refine stm ?_ | refine Ja ?_ | refine Jb ?_ | refine Jc ?_ | refine Jd ?_ | refine Je ?_ | refine Jf ?_ | refine Jg ?_ | refine Jh ?_ ?_ | refine Ji ?_ ?_ | refine Jj ?_ ?_ | refine run_nil ?_ | refine Jz ?_ | refine Jw ?_ | refine aw_block ?_ | refine Jq ?_ | refine Jr ?_ | refine Js ?_ | refine Jt ?_ | refine Ju ?_ ?_ | refine Jv ?_ ?_ | refine Jy ?_ | refine aw_exit ?_ | refine aw_ret ?_ | refine pp_ret ?_ | refine pp_normal ?_
    all_goals first
      | rfl
      | (exfalso; omega)
      | (simp [retOf]; done)
      | (exfalso; simp_all; done)
      | (exfalso; simp only [Bool.not_eq_true', Bool.not_eq_false', decide_eq_true_eq, decide_eq_false_iff_not, Bool.not_false, Bool.not_true] at *; omega)
set_option maxHeartbeats 4000000 in
theorem ac_jDA1 (d : ByteArray) (nm cd : ByteArray) (no nd : Int) (ok k : Bool) (H : ACalls Tryz.prog 91 [.string d] [] (.tuple #[.agg #[.string nm, .int .i64 no, .int .i64 nd, .string cd], .bool ok]) []) (HK : ACalls Tryz.prog 63 [.agg #[.string nm, .int .i64 no, .string cd]] [] (.bool k) []) (h : (ok && (decide (nd = -1) && k)) = true) : ACalls Tryz.prog 45 [.string d] [] (.tuple #[.agg #[.string nm, .int .i64 no, .string cd], .int .i64 0]) [] := by
  obtain ⟨k1, k2⟩ := and_t h
  obtain ⟨k3, k4⟩ := and_t k2
  have k3 := of_decide_eq_true k3
  subst k1 k4
  clear h k2
  refine acalls_law Tryz.func45 rfl rfl rfl ?_
  repeat' first | intro h1 | intro h1 | refine st (h := ok_not_dec2 rfl) ?_ | refine st ?_ | refine st_call (H) ?_ | refine st_call (HK) ?_ | refine sd_call (H) ?_ | refine sd_call (HK) ?_ | refine stm ?_ | refine Ja ?_ | refine Jb ?_ | refine Jc ?_ | refine Jd ?_ | refine Je ?_ | refine Jf ?_ | refine Jg ?_ | refine Jh ?_ ?_ | refine Ji ?_ ?_ | refine Jj ?_ ?_ | refine run_nil ?_ | refine Jz ?_ | refine Jw ?_ | refine aw_block ?_ | refine Jq ?_ | refine Jr ?_ | refine Js ?_ | refine Jt ?_ | refine Ju ?_ ?_ | refine Jv ?_ ?_ | refine Jy ?_ | refine aw_exit ?_ | refine aw_ret ?_ | refine pp_ret ?_ | refine pp_normal ?_
  all_goals first
    | rfl
    | (exfalso; omega)
    | (simp [retOf]; done)
    | (exfalso; simp_all; done)
    | (exfalso; simp only [Bool.not_eq_true', Bool.not_eq_false', decide_eq_true_eq, decide_eq_false_iff_not, Bool.not_false, Bool.not_true] at *; omega)
set_option maxHeartbeats 4000000 in
theorem ac_jDB0 (d : ByteArray) (nm cd : ByteArray) (no nd : Int) (ok k : Bool) (H : ACalls Tryz.prog 91 [.string d] [] (.tuple #[.agg #[.string nm, .int .i64 no, .int .i64 nd, .string cd], .bool ok]) []) (HK : ACalls Tryz.prog 60 [.agg #[.string nm, .int .i64 no, .int .i64 nd, .string cd]] [] (.bool k) []) (h : (ok && k) = false) : ACalls Tryz.prog 47 [.string d] [] (.tuple #[.agg #[.string ⟨#[]⟩, .int .i64 0, .int .i64 0, .string ⟨#[]⟩], .int .i64 10]) [] := by
  cases ok with
  | false =>
    refine acalls_law Tryz.func47 rfl rfl rfl ?_
    repeat' first | intro h1 | intro h1 | refine st (h := ok_not_dec2 rfl) ?_ | refine st ?_ | refine st_call (H) ?_ | refine st_call (HK) ?_ | refine sd_call (H) ?_ | refine sd_call (HK) ?_ | refine stm ?_ | refine Ja ?_ | refine Jb ?_ | refine Jc ?_ | refine Jd ?_ | refine Je ?_ | refine Jf ?_ | refine Jg ?_ | refine Jh ?_ ?_ | refine Ji ?_ ?_ | refine Jj ?_ ?_ | refine run_nil ?_ | refine Jz ?_ | refine Jw ?_ | refine aw_block ?_ | refine Jq ?_ | refine Jr ?_ | refine Js ?_ | refine Jt ?_ | refine Ju ?_ ?_ | refine Jv ?_ ?_ | refine Jy ?_ | refine aw_exit ?_ | refine aw_ret ?_ | refine pp_ret ?_ | refine pp_normal ?_
    all_goals first
      | rfl
      | (exfalso; omega)
      | (simp [retOf]; done)
      | (exfalso; simp_all; done)
      | (exfalso; simp only [Bool.not_eq_true', Bool.not_eq_false', decide_eq_true_eq, decide_eq_false_iff_not, Bool.not_false, Bool.not_true] at *; omega)
  | true =>
  rw [Bool.true_and] at h
  subst h
  refine acalls_law Tryz.func47 rfl rfl rfl ?_
  repeat' first | intro h1 | intro h1 | refine st (h := ok_not_dec2 rfl) ?_ | refine st ?_ | refine st_call (H) ?_ | refine st_call (HK) ?_ | refine sd_call (H) ?_ | refine sd_call (HK) ?_ | refine stm ?_ | refine Ja ?_ | refine Jb ?_ | refine Jc ?_ | refine Jd ?_ | refine Je ?_ | refine Jf ?_ | refine Jg ?_ | refine Jh ?_ ?_ | refine Ji ?_ ?_ | refine Jj ?_ ?_ | refine run_nil ?_ | refine Jz ?_ | refine Jw ?_ | refine aw_block ?_ | refine Jq ?_ | refine Jr ?_ | refine Js ?_ | refine Jt ?_ | refine Ju ?_ ?_ | refine Jv ?_ ?_ | refine Jy ?_ | refine aw_exit ?_ | refine aw_ret ?_ | refine pp_ret ?_ | refine pp_normal ?_
  all_goals first
    | rfl
    | (exfalso; omega)
    | (simp [retOf]; done)
    | (exfalso; simp_all; done)
    | (exfalso; simp only [Bool.not_eq_true', Bool.not_eq_false', decide_eq_true_eq, decide_eq_false_iff_not, Bool.not_false, Bool.not_true] at *; omega)
set_option maxHeartbeats 4000000 in
theorem ac_jDB1 (d : ByteArray) (nm cd : ByteArray) (no nd : Int) (ok k : Bool) (H : ACalls Tryz.prog 91 [.string d] [] (.tuple #[.agg #[.string nm, .int .i64 no, .int .i64 nd, .string cd], .bool ok]) []) (HK : ACalls Tryz.prog 60 [.agg #[.string nm, .int .i64 no, .int .i64 nd, .string cd]] [] (.bool k) []) (h : (ok && k) = true) : ACalls Tryz.prog 47 [.string d] [] (.tuple #[.agg #[.string nm, .int .i64 no, .int .i64 nd, .string cd], .int .i64 0]) [] := by
  obtain ⟨k1, k2⟩ := and_t h
  subst k1 k2
  clear h
  refine acalls_law Tryz.func47 rfl rfl rfl ?_
  repeat' first | intro h1 | intro h1 | refine st (h := ok_not_dec2 rfl) ?_ | refine st ?_ | refine st_call (H) ?_ | refine st_call (HK) ?_ | refine sd_call (H) ?_ | refine sd_call (HK) ?_ | refine stm ?_ | refine Ja ?_ | refine Jb ?_ | refine Jc ?_ | refine Jd ?_ | refine Je ?_ | refine Jf ?_ | refine Jg ?_ | refine Jh ?_ ?_ | refine Ji ?_ ?_ | refine Jj ?_ ?_ | refine run_nil ?_ | refine Jz ?_ | refine Jw ?_ | refine aw_block ?_ | refine Jq ?_ | refine Jr ?_ | refine Js ?_ | refine Jt ?_ | refine Ju ?_ ?_ | refine Jv ?_ ?_ | refine Jy ?_ | refine aw_exit ?_ | refine aw_ret ?_ | refine pp_ret ?_ | refine pp_normal ?_
  all_goals first
    | rfl
    | (exfalso; omega)
    | (simp [retOf]; done)
    | (exfalso; simp_all; done)
    | (exfalso; simp only [Bool.not_eq_true', Bool.not_eq_false', decide_eq_true_eq, decide_eq_false_iff_not, Bool.not_false, Bool.not_true] at *; omega)
end Go.Proofs.YtdbcbclapipgdaaGreatDoor
