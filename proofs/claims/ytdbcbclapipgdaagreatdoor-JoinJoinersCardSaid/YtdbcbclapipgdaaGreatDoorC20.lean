/- Join: joiners checked by the reference; Join: members compared and few. -/
import Derived.Test.YtdbcbclapipgdaaGreatDoorVO
import Derived.Test.YtdbcbclapipgdaaGreatDoorJ
import Derived.Test.YtdbcbclapipgdaaGreatDoorC16
set_option linter.unusedVariables false
set_option linter.unusedSimpArgs false
namespace Go.Proofs.YtdbcbclapipgdaaGreatDoor
open Go Av
set_option maxRecDepth 20000
set_option maxHeartbeats 4000000 in
theorem ac_rjCheck (nm sec : ByteArray) (sj pa ep nd no tr si : Int) (x : Bool) (hx : chJ nm sec sj pa ep nd no tr si = x) : ACalls Tryz.prog 38 [.agg #[.string nm, .string sec, .int .i64 sj, .int .i64 pa, .int .i64 ep, .int .i64 nd, .int .i64 no, .int .i64 tr, .int .i64 si]] [] (.int .i64 (cond x 0 1)) [] := by
  obtain ⟨a, ha⟩ : ∃ a, nmB nm = a := ⟨_, rfl⟩
  obtain ⟨c, hc⟩ : ∃ c, scB sec = c := ⟨_, rfl⟩
  have HN := ac_rName nm a ha
  have HS := ac_rSecret sec c hc
  have HW := ac_member nd
  unfold chJ at hx
  rw [ha, hc] at hx
  clear ha hc
  cases a
  · obtain rfl : x = false := by rw [← hx]; rfl
    clear hx
    refine acalls_law Tryz.func38 rfl rfl rfl ?_
    repeat' first | intro h1 | intro h1 | refine st (h := ok_not_dec2 rfl) ?_ | refine st ?_ | refine st_call (HN) ?_ | refine st_call (HS) ?_ | refine st_call (HW) ?_ | refine sd_call (HN) ?_ | refine sd_call (HS) ?_ | refine sd_call (HW) ?_ | refine stm ?_ | refine Ja ?_ | refine Jb ?_ | refine Jc ?_ | refine Jd ?_ | refine Je ?_ | refine Jf ?_ | refine Jg ?_ | refine Jh ?_ ?_ | refine Ji ?_ ?_ | refine Jj ?_ ?_ | refine run_nil ?_ | refine Jz ?_ | refine Jw ?_ | refine aw_block ?_ | refine Jq ?_ | refine Jr ?_ | refine Js ?_ | refine Jt ?_ | refine Ju ?_ ?_ | refine Jv ?_ ?_ | refine Jy ?_ | refine aw_exit ?_ | refine aw_ret ?_ | refine pp_ret ?_ | refine pp_normal ?_
    all_goals first
      | rfl
      | (exfalso; omega)
      | (simp [retOf]; done)
      | (exfalso; simp_all; done)
      | (exfalso; simp only [Bool.not_eq_true', Bool.not_eq_false', decide_eq_true_eq, decide_eq_false_iff_not, Bool.not_false, Bool.not_true] at *; omega)
  cases c
  · obtain rfl : x = false := by rw [← hx]; rfl
    clear hx
    refine acalls_law Tryz.func38 rfl rfl rfl ?_
    repeat' first | intro h1 | intro h1 | refine st (h := ok_not_dec2 rfl) ?_ | refine st ?_ | refine st_call (HN) ?_ | refine st_call (HS) ?_ | refine st_call (HW) ?_ | refine sd_call (HN) ?_ | refine sd_call (HS) ?_ | refine sd_call (HW) ?_ | refine stm ?_ | refine Ja ?_ | refine Jb ?_ | refine Jc ?_ | refine Jd ?_ | refine Je ?_ | refine Jf ?_ | refine Jg ?_ | refine Jh ?_ ?_ | refine Ji ?_ ?_ | refine Jj ?_ ?_ | refine run_nil ?_ | refine Jz ?_ | refine Jw ?_ | refine aw_block ?_ | refine Jq ?_ | refine Jr ?_ | refine Js ?_ | refine Jt ?_ | refine Ju ?_ ?_ | refine Jv ?_ ?_ | refine Jy ?_ | refine aw_exit ?_ | refine aw_ret ?_ | refine pp_ret ?_ | refine pp_normal ?_
    all_goals first
      | rfl
      | (exfalso; omega)
      | (simp [retOf]; done)
      | (exfalso; simp_all; done)
      | (exfalso; simp only [Bool.not_eq_true', Bool.not_eq_false', decide_eq_true_eq, decide_eq_false_iff_not, Bool.not_false, Bool.not_true] at *; omega)
  simp only [Bool.true_and] at hx
  by_cases hn : (0 ≤ ep ∧ ep ≤ 65535) ∧ (0 ≤ no ∧ no ≤ 2147483647) ∧ (0 ≤ si ∧ si ≤ 109951162) ∧ 0 ≤ tr ∧ tr ≤ 4
  case neg =>
    obtain rfl : x = false := by rw [← hx, decide_eq_false hn]; rfl
    clear hx
    refine acalls_law Tryz.func38 rfl rfl rfl ?_
    repeat' first | intro h1 | intro h1 | refine st (h := ok_not_dec2 rfl) ?_ | refine st ?_ | refine st_call (HN) ?_ | refine st_call (HS) ?_ | refine st_call (HW) ?_ | refine sd_call (HN) ?_ | refine sd_call (HS) ?_ | refine sd_call (HW) ?_ | refine stm ?_ | refine Ja ?_ | refine Jb ?_ | refine Jc ?_ | refine Jd ?_ | refine Je ?_ | refine Jf ?_ | refine Jg ?_ | refine Jh ?_ ?_ | refine Ji ?_ ?_ | refine Jj ?_ ?_ | refine run_nil ?_ | refine Jz ?_ | refine Jw ?_ | refine aw_block ?_ | refine Jq ?_ | refine Jr ?_ | refine Js ?_ | refine Jt ?_ | refine Ju ?_ ?_ | refine Jv ?_ ?_ | refine Jy ?_ | refine aw_exit ?_ | refine aw_ret ?_ | refine pp_ret ?_ | refine pp_normal ?_
    all_goals first
      | rfl
      | (exfalso; omega)
      | (simp [retOf]; done)
      | (exfalso; simp_all; done)
      | (exfalso; simp only [Bool.not_eq_true', Bool.not_eq_false', decide_eq_true_eq, decide_eq_false_iff_not, Bool.not_false, Bool.not_true] at *; omega)
  rw [decide_eq_true hn, Bool.true_and] at hx
  by_cases h0 : sj = 0
  · subst h0
    rw [show stB 0 pa ep nd no tr si = decide (pa = -1 ∧ nd = -1 ∧ tr = 0 ∧ ep = 0 ∧ si = 0) from rfl] at hx
    refine acalls_law Tryz.func38 rfl rfl rfl ?_
    repeat' first | intro h1 | intro h1 | refine st (h := ok_not_dec2 rfl) ?_ | refine st ?_ | refine st_call (HN) ?_ | refine st_call (HS) ?_ | refine st_call (HW) ?_ | refine sd_call (HN) ?_ | refine sd_call (HS) ?_ | refine sd_call (HW) ?_ | refine stm ?_ | refine Ja ?_ | refine Jb ?_ | refine Jc ?_ | refine Jd ?_ | refine Je ?_ | refine Jf ?_ | refine Jg ?_ | refine Jh ?_ ?_ | refine Ji ?_ ?_ | refine Jj ?_ ?_ | refine run_nil ?_ | refine Jz ?_ | refine Jw ?_ | refine aw_block ?_ | refine Jq ?_ | refine Jr ?_ | refine Js ?_ | refine Jt ?_ | refine Ju ?_ ?_ | refine Jv ?_ ?_ | refine Jy ?_ | refine aw_exit ?_ | refine aw_ret ?_ | refine pp_ret ?_ | refine pp_normal ?_
    all_goals first
      | rfl
      | (exfalso; omega)
      | (rw [← hx]; exact congrArg (fun q => Value.int .i64 (cond q 0 1)) (decide_eq_false (by omega)).symm)
      | (rw [← hx]; exact congrArg (fun q => Value.int .i64 (cond q 0 1)) (decide_eq_true (by omega)).symm)
      | (simp only [Bool.not_eq_true', Bool.not_eq_false', decide_eq_true_eq, decide_eq_false_iff_not] at h1; rw [← hx]; exact congrArg (fun q => Value.int .i64 (cond q 0 1)) (decide_eq_false (by omega)).symm)
      | (simp only [Bool.not_eq_true', Bool.not_eq_false', decide_eq_true_eq, decide_eq_false_iff_not] at h1; rw [← hx]; exact congrArg (fun q => Value.int .i64 (cond q 0 1)) (decide_eq_true (by omega)).symm)
  by_cases h1 : sj = 1
  · subst h1
    rw [show stB 1 pa ep nd no tr si = decide ((0 ≤ pa ∧ pa ≤ 31) ∧ nd = -1 ∧ tr < 4) from rfl] at hx
    refine acalls_law Tryz.func38 rfl rfl rfl ?_
    repeat' first | intro h1 | intro h1 | refine st (h := ok_not_dec2 rfl) ?_ | refine st ?_ | refine st_call (HN) ?_ | refine st_call (HS) ?_ | refine st_call (HW) ?_ | refine sd_call (HN) ?_ | refine sd_call (HS) ?_ | refine sd_call (HW) ?_ | refine stm ?_ | refine Ja ?_ | refine Jb ?_ | refine Jc ?_ | refine Jd ?_ | refine Je ?_ | refine Jf ?_ | refine Jg ?_ | refine Jh ?_ ?_ | refine Ji ?_ ?_ | refine Jj ?_ ?_ | refine run_nil ?_ | refine Jz ?_ | refine Jw ?_ | refine aw_block ?_ | refine Jq ?_ | refine Jr ?_ | refine Js ?_ | refine Jt ?_ | refine Ju ?_ ?_ | refine Jv ?_ ?_ | refine Jy ?_ | refine aw_exit ?_ | refine aw_ret ?_ | refine pp_ret ?_ | refine pp_normal ?_
    all_goals first
      | rfl
      | (exfalso; omega)
      | (rw [← hx]; exact congrArg (fun q => Value.int .i64 (cond q 0 1)) (decide_eq_false (by omega)).symm)
      | (rw [← hx]; exact congrArg (fun q => Value.int .i64 (cond q 0 1)) (decide_eq_true (by omega)).symm)
      | (simp only [Bool.not_eq_true', Bool.not_eq_false', decide_eq_true_eq, decide_eq_false_iff_not] at h1; rw [← hx]; exact congrArg (fun q => Value.int .i64 (cond q 0 1)) (decide_eq_false (by omega)).symm)
      | (simp only [Bool.not_eq_true', Bool.not_eq_false', decide_eq_true_eq, decide_eq_false_iff_not] at h1; rw [← hx]; exact congrArg (fun q => Value.int .i64 (cond q 0 1)) (decide_eq_true (by omega)).symm)
  by_cases h2 : sj = 2
  · subst h2
    rw [show stB 2 pa ep nd no tr si = decide ((0 ≤ pa ∧ pa ≤ 31) ∧ nd = -1 ∧ 1 ≤ tr ∧ 1 ≤ no) from rfl] at hx
    refine acalls_law Tryz.func38 rfl rfl rfl ?_
    repeat' first | intro h1 | intro h1 | refine st (h := ok_not_dec2 rfl) ?_ | refine st ?_ | refine st_call (HN) ?_ | refine st_call (HS) ?_ | refine st_call (HW) ?_ | refine sd_call (HN) ?_ | refine sd_call (HS) ?_ | refine sd_call (HW) ?_ | refine stm ?_ | refine Ja ?_ | refine Jb ?_ | refine Jc ?_ | refine Jd ?_ | refine Je ?_ | refine Jf ?_ | refine Jg ?_ | refine Jh ?_ ?_ | refine Ji ?_ ?_ | refine Jj ?_ ?_ | refine run_nil ?_ | refine Jz ?_ | refine Jw ?_ | refine aw_block ?_ | refine Jq ?_ | refine Jr ?_ | refine Js ?_ | refine Jt ?_ | refine Ju ?_ ?_ | refine Jv ?_ ?_ | refine Jy ?_ | refine aw_exit ?_ | refine aw_ret ?_ | refine pp_ret ?_ | refine pp_normal ?_
    all_goals first
      | rfl
      | (exfalso; omega)
      | (rw [← hx]; exact congrArg (fun q => Value.int .i64 (cond q 0 1)) (decide_eq_false (by omega)).symm)
      | (rw [← hx]; exact congrArg (fun q => Value.int .i64 (cond q 0 1)) (decide_eq_true (by omega)).symm)
      | (simp only [Bool.not_eq_true', Bool.not_eq_false', decide_eq_true_eq, decide_eq_false_iff_not] at h1; rw [← hx]; exact congrArg (fun q => Value.int .i64 (cond q 0 1)) (decide_eq_false (by omega)).symm)
      | (simp only [Bool.not_eq_true', Bool.not_eq_false', decide_eq_true_eq, decide_eq_false_iff_not] at h1; rw [← hx]; exact congrArg (fun q => Value.int .i64 (cond q 0 1)) (decide_eq_true (by omega)).symm)
  by_cases h3 : sj = 3
  · subst h3
    rw [show stB 3 pa ep nd no tr si = decide ((0 ≤ pa ∧ pa ≤ 31) ∧ (1 ≤ nd ∧ nd ≤ 31) ∧ 1 ≤ no) from rfl] at hx
    refine acalls_law Tryz.func38 rfl rfl rfl ?_
    repeat' first | intro h1 | intro h1 | refine st (h := ok_not_dec2 rfl) ?_ | refine st ?_ | refine st_call (HN) ?_ | refine st_call (HS) ?_ | refine st_call (HW) ?_ | refine sd_call (HN) ?_ | refine sd_call (HS) ?_ | refine sd_call (HW) ?_ | refine stm ?_ | refine Ja ?_ | refine Jb ?_ | refine Jc ?_ | refine Jd ?_ | refine Je ?_ | refine Jf ?_ | refine Jg ?_ | refine Jh ?_ ?_ | refine Ji ?_ ?_ | refine Jj ?_ ?_ | refine run_nil ?_ | refine Jz ?_ | refine Jw ?_ | refine aw_block ?_ | refine Jq ?_ | refine Jr ?_ | refine Js ?_ | refine Jt ?_ | refine Ju ?_ ?_ | refine Jv ?_ ?_ | refine Jy ?_ | refine aw_exit ?_ | refine aw_ret ?_ | refine pp_ret ?_ | refine pp_normal ?_
    all_goals first
      | rfl
      | (exfalso; omega)
      | (rw [← hx]; exact congrArg (fun q => Value.int .i64 (cond q 0 1)) (decide_eq_false (by omega)).symm)
      | (rw [← hx]; exact congrArg (fun q => Value.int .i64 (cond q 0 1)) (decide_eq_true (by omega)).symm)
      | (simp only [Bool.not_eq_true', Bool.not_eq_false', decide_eq_true_eq, decide_eq_false_iff_not] at h1; rw [← hx]; exact congrArg (fun q => Value.int .i64 (cond q 0 1)) (decide_eq_false (by omega)).symm)
      | (simp only [Bool.not_eq_true', Bool.not_eq_false', decide_eq_true_eq, decide_eq_false_iff_not] at h1; rw [← hx]; exact congrArg (fun q => Value.int .i64 (cond q 0 1)) (decide_eq_true (by omega)).symm)
  obtain rfl : x = false := by
    rw [← hx]
    unfold stB
    rw [if_neg h0, if_neg h1, if_neg h2, if_neg h3]
  refine acalls_law Tryz.func38 rfl rfl rfl ?_
  repeat' first | intro h1 | intro h1 | refine st (h := ok_not_dec2 rfl) ?_ | refine st ?_ | refine st_call (HN) ?_ | refine st_call (HS) ?_ | refine st_call (HW) ?_ | refine sd_call (HN) ?_ | refine sd_call (HS) ?_ | refine sd_call (HW) ?_ | refine stm ?_ | refine Ja ?_ | refine Jb ?_ | refine Jc ?_ | refine Jd ?_ | refine Je ?_ | refine Jf ?_ | refine Jg ?_ | refine Jh ?_ ?_ | refine Ji ?_ ?_ | refine Jj ?_ ?_ | refine run_nil ?_ | refine Jz ?_ | refine Jw ?_ | refine aw_block ?_ | refine Jq ?_ | refine Jr ?_ | refine Js ?_ | refine Jt ?_ | refine Ju ?_ ?_ | refine Jv ?_ ?_ | refine Jy ?_ | refine aw_exit ?_ | refine aw_ret ?_ | refine pp_ret ?_ | refine pp_normal ?_
  all_goals first
    | rfl
    | (exfalso; omega)
    | (simp [retOf]; done)
    | (exfalso; simp_all; done)
    | (exfalso; simp only [Bool.not_eq_true', Bool.not_eq_false', decide_eq_true_eq, decide_eq_false_iff_not, Bool.not_false, Bool.not_true] at *; omega)
theorem ac_few (nm sec : ByteArray) (sj pa ep nd no tr si : Int) : ACalls Tryz.prog 13 [.agg #[.string nm, .string sec, .int .i64 sj, .int .i64 pa, .int .i64 ep, .int .i64 nd, .int .i64 no, .int .i64 tr, .int .i64 si]] [] (.bool (decide (nm.size ≤ 60 ∧ sec.size ≤ 60))) [] := by
  refine acalls_law Tryz.func13 rfl rfl rfl ?_
  repeat' first | intro h1 | intro h1 | refine st ?_ | refine stm ?_ | refine Ja ?_ | refine Jb ?_ | refine Jc ?_ | refine Jd ?_ | refine Je ?_ | refine Jf ?_ | refine Jg ?_ | refine Jh ?_ ?_ | refine Ji ?_ ?_ | refine Jj ?_ ?_ | refine run_nil ?_ | refine Jz ?_ | refine Jw ?_ | refine aw_block ?_ | refine Jq ?_ | refine Jr ?_ | refine Js ?_ | refine Jt ?_ | refine Ju ?_ ?_ | refine Jv ?_ ?_ | refine Jy ?_ | refine aw_exit ?_ | refine aw_ret ?_ | refine pp_ret ?_ | refine pp_normal ?_
  all_goals first | (exfalso; omega) | (show Value.bool _ = Value.bool _; congr 1; first | exact (decide_eq_true (by omega)).symm | exact (decide_eq_false (by omega)).symm | exact decide_eq_decide.2 (by omega))
end Go.Proofs.YtdbcbclapipgdaaGreatDoor
