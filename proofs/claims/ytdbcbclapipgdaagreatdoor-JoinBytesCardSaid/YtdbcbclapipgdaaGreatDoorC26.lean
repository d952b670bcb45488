/- Join: names, secrets, numbers in decimal; Join: requests and answers checked, the states of joiners. -/
import Derived.Test.YtdbcbclapipgdaaGreatDoorVO
import Derived.Test.YtdbcbclapipgdaaGreatDoorJ
import Derived.Test.YtdbcbclapipgdaaGreatDoorC23
set_option linter.unusedVariables false
set_option linter.unusedSimpArgs false
namespace Go.Proofs.YtdbcbclapipgdaaGreatDoor
open Go Av
set_option maxRecDepth 20000
theorem ac_member (n : Int) : ACalls Tryz.prog 73 [.int .i64 n] [] (.bool (decide (1 ≤ n ∧ n ≤ 31))) [] := by
  obtain ⟨x, hx⟩ : ∃ x, decide (1 ≤ n ∧ n ≤ 31) = x := ⟨_, rfl⟩
  rw [hx]
  refine acalls_pure Tryz.func73 rfl rfl rfl ?_
  repeat' first | intro h1 | intro h1 | refine st ?_ | refine stm ?_ | refine Ja ?_ | refine Jb ?_ | refine Jc ?_ | refine Jd ?_ | refine Je ?_ | refine Jf ?_ | refine Jg ?_ | refine Jh ?_ ?_ | refine Ji ?_ ?_ | refine Jj ?_ ?_ | refine run_nil ?_ | refine Jz ?_ | refine Jw ?_ | refine aw_block ?_ | refine Jq ?_ | refine Jr ?_ | refine Js ?_ | refine Jt ?_ | refine Ju ?_ ?_ | refine Jv ?_ ?_ | refine Jy ?_ | refine aw_exit ?_ | refine aw_ret ?_ | refine pp_ret ?_ | refine pp_normal ?_
  all_goals first
    | rfl
    | (exfalso; omega)
    | (rw [← hx]; refine congrArg Value.bool ?_; first | exact (decide_eq_true (by omega)).symm | exact (decide_eq_false (by omega)).symm | exact decide_eq_decide.2 (by omega))
    | (rw [← hx]; show Value.bool _ = Value.bool _; congr 1; first | exact (decide_eq_true (by omega)).symm | exact (decide_eq_false (by omega)).symm | exact decide_eq_decide.2 (by omega) | (rw [← decide_not]; exact decide_eq_decide.2 (by omega)))
    | (exfalso; simp only [Bool.not_eq_true', Bool.not_eq_false', decide_eq_true_eq, decide_eq_false_iff_not, Bool.not_false, Bool.not_true] at *; omega)
    | (simp [retOf]; done)
    | (exfalso; simp_all; done)
set_option maxHeartbeats 1000000 in
theorem ac_AskForm (nm : ByteArray) (no : Int) (cd : ByteArray) (x : Bool) (hx : akB nm no cd = x) : ACalls Tryz.prog 69 [.agg #[.string nm, .int .i64 no, .string cd]] [] (.bool x) [] := by
  unfold akB at hx
  obtain ⟨a, ha⟩ : ∃ a, nmB nm = a := ⟨_, rfl⟩
  have H := ac_rName nm a ha
  have HW := ac_jwithin
  rw [ha] at hx
  clear ha
  cases a
  · rw [Bool.false_and] at hx
    subst hx
    refine acalls_law Tryz.func69 rfl rfl rfl ?_
    repeat' first | intro h1 | intro h1 | refine st ?_ | refine st_call (H) ?_ | refine st_call (HW _ _ _) ?_ | refine sd_call (H) ?_ | refine sd_call (HW _ _ _) ?_ | refine stm ?_ | refine Ja ?_ | refine Jb ?_ | refine Jc ?_ | refine Jd ?_ | refine Je ?_ | refine Jf ?_ | refine Jg ?_ | refine Jh ?_ ?_ | refine Ji ?_ ?_ | refine Jj ?_ ?_ | refine run_nil ?_ | refine Jz ?_ | refine Jw ?_ | refine aw_block ?_ | refine Jq ?_ | refine Jr ?_ | refine Js ?_ | refine Jt ?_ | refine Ju ?_ ?_ | refine Jv ?_ ?_ | refine Jy ?_ | refine aw_exit ?_ | refine aw_ret ?_ | refine pp_ret ?_ | refine pp_normal ?_
    all_goals first
      | rfl
      | (exfalso; omega)
      | (rw [← hx]; refine congrArg Value.bool ?_; first | exact (decide_eq_true (by omega)).symm | exact (decide_eq_false (by omega)).symm | exact decide_eq_decide.2 (by omega))
      | (rw [← hx]; show Value.bool _ = Value.bool _; congr 1; first | exact (decide_eq_true (by omega)).symm | exact (decide_eq_false (by omega)).symm | exact decide_eq_decide.2 (by omega) | (rw [← decide_not]; exact decide_eq_decide.2 (by omega)))
      | (exfalso; simp only [Bool.not_eq_true', Bool.not_eq_false', decide_eq_true_eq, decide_eq_false_iff_not, Bool.not_false, Bool.not_true] at *; omega)
      | (simp [retOf]; done)
      | (exfalso; simp_all; done)
  · rw [Bool.true_and] at hx
    refine acalls_law Tryz.func69 rfl rfl rfl ?_
    repeat' first | intro h1 | intro h1 | refine st ?_ | refine st_call (H) ?_ | refine st_call (HW _ _ _) ?_ | refine sd_call (H) ?_ | refine sd_call (HW _ _ _) ?_ | refine stm ?_ | refine Ja ?_ | refine Jb ?_ | refine Jc ?_ | refine Jd ?_ | refine Je ?_ | refine Jf ?_ | refine Jg ?_ | refine Jh ?_ ?_ | refine Ji ?_ ?_ | refine Jj ?_ ?_ | refine run_nil ?_ | refine Jz ?_ | refine Jw ?_ | refine aw_block ?_ | refine Jq ?_ | refine Jr ?_ | refine Js ?_ | refine Jt ?_ | refine Ju ?_ ?_ | refine Jv ?_ ?_ | refine Jy ?_ | refine aw_exit ?_ | refine aw_ret ?_ | refine pp_ret ?_ | refine pp_normal ?_
    all_goals first
      | rfl
      | (exfalso; omega)
      | (rw [← hx]; refine congrArg Value.bool ?_; first | exact (decide_eq_true (by omega)).symm | exact (decide_eq_false (by omega)).symm | exact decide_eq_decide.2 (by omega))
      | (rw [← hx]; show Value.bool _ = Value.bool _; congr 1; first | exact (decide_eq_true (by omega)).symm | exact (decide_eq_false (by omega)).symm | exact decide_eq_decide.2 (by omega) | (rw [← decide_not]; exact decide_eq_decide.2 (by omega)))
      | (exfalso; simp only [Bool.not_eq_true', Bool.not_eq_false', decide_eq_true_eq, decide_eq_false_iff_not, Bool.not_false, Bool.not_true] at *; omega)
      | (simp [retOf]; done)
      | (exfalso; simp_all; done)
end Go.Proofs.YtdbcbclapipgdaaGreatDoor
