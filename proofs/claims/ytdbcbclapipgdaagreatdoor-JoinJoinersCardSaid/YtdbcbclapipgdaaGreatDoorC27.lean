/- Join: begun, waited (both). -/
import Derived.Test.YtdbcbclapipgdaaGreatDoorVO
import Derived.Test.YtdbcbclapipgdaaGreatDoorJ
import Derived.Test.YtdbcbclapipgdaaGreatDoorC22
set_option linter.unusedVariables false
set_option linter.unusedSimpArgs false
namespace Go.Proofs.YtdbcbclapipgdaaGreatDoor
open Go Av
set_option maxRecDepth 20000
set_option maxHeartbeats 1000000 in
theorem ac_jin (nm sec : ByteArray) (sj pa ep nd no tr si : Int) (k : Int) (x y : Bool) (hx : chJ nm sec sj pa ep nd no tr si = x) (hy : decide (sj = k) = y) : ACalls Tryz.prog 59 [.agg #[.string nm, .string sec, .int .i64 sj, .int .i64 pa, .int .i64 ep, .int .i64 nd, .int .i64 no, .int .i64 tr, .int .i64 si], .int .i64 k] [] (.int .i64 (cond x (cond y 0 12) 1)) [] := by
  have HC := ac_jCheck nm sec sj pa ep nd no tr si x hx
  clear hx
  cases x
  · refine acalls_law Tryz.func59 rfl rfl rfl ?_
    repeat' first | intro h1 | intro h1 | refine st ?_ | refine st_call (HC) ?_ | refine sd_call (HC) ?_ | refine stm ?_ | refine Ja ?_ | refine Jb ?_ | refine Jc ?_ | refine Jd ?_ | refine Je ?_ | refine Jf ?_ | refine Jg ?_ | refine Jh ?_ ?_ | refine Ji ?_ ?_ | refine Jj ?_ ?_ | refine run_nil ?_ | refine Jz ?_ | refine Jw ?_ | refine aw_block ?_ | refine Jq ?_ | refine Jr ?_ | refine Js ?_ | refine Jt ?_ | refine Ju ?_ ?_ | refine Jv ?_ ?_ | refine Jy ?_ | refine aw_exit ?_ | refine aw_ret ?_ | refine pp_ret ?_ | refine pp_normal ?_
    all_goals first
      | rfl
      | (exfalso; omega)
      | (simp [retOf]; done)
      | (exfalso; simp_all; done)
      | (exfalso; simp only [Bool.not_eq_true', Bool.not_eq_false', decide_eq_true_eq, decide_eq_false_iff_not, Bool.not_false, Bool.not_true] at *; omega)
  cases y
  · have hy := of_decide_eq_false hy
    refine acalls_law Tryz.func59 rfl rfl rfl ?_
    repeat' first | intro h1 | intro h1 | refine st ?_ | refine st_call (HC) ?_ | refine sd_call (HC) ?_ | refine stm ?_ | refine Ja ?_ | refine Jb ?_ | refine Jc ?_ | refine Jd ?_ | refine Je ?_ | refine Jf ?_ | refine Jg ?_ | refine Jh ?_ ?_ | refine Ji ?_ ?_ | refine Jj ?_ ?_ | refine run_nil ?_ | refine Jz ?_ | refine Jw ?_ | refine aw_block ?_ | refine Jq ?_ | refine Jr ?_ | refine Js ?_ | refine Jt ?_ | refine Ju ?_ ?_ | refine Jv ?_ ?_ | refine Jy ?_ | refine aw_exit ?_ | refine aw_ret ?_ | refine pp_ret ?_ | refine pp_normal ?_
    all_goals first
      | rfl
      | (exfalso; omega)
      | (simp [retOf]; done)
      | (exfalso; simp_all; done)
      | (exfalso; simp only [Bool.not_eq_true', Bool.not_eq_false', decide_eq_true_eq, decide_eq_false_iff_not, Bool.not_false, Bool.not_true] at *; omega)
  · obtain rfl : sj = k := of_decide_eq_true hy
    clear hy
    refine acalls_law Tryz.func59 rfl rfl rfl ?_
    repeat' first | intro h1 | intro h1 | refine st ?_ | refine st_call (HC) ?_ | refine sd_call (HC) ?_ | refine stm ?_ | refine Ja ?_ | refine Jb ?_ | refine Jc ?_ | refine Jd ?_ | refine Je ?_ | refine Jf ?_ | refine Jg ?_ | refine Jh ?_ ?_ | refine Ji ?_ ?_ | refine Jj ?_ ?_ | refine run_nil ?_ | refine Jz ?_ | refine Jw ?_ | refine aw_block ?_ | refine Jq ?_ | refine Jr ?_ | refine Js ?_ | refine Jt ?_ | refine Ju ?_ ?_ | refine Jv ?_ ?_ | refine Jy ?_ | refine aw_exit ?_ | refine aw_ret ?_ | refine pp_ret ?_ | refine pp_normal ?_
    all_goals first
      | rfl
      | (exfalso; omega)
      | (simp [retOf]; done)
      | (exfalso; simp_all; done)
      | (exfalso; simp only [Bool.not_eq_true', Bool.not_eq_false', decide_eq_true_eq, decide_eq_false_iff_not, Bool.not_false, Bool.not_true] at *; omega)
theorem ac_anew (nm sec : ByteArray) (sj pa ep nd no tr si : Int) : ACalls Tryz.prog 79 [.agg #[.string nm, .string sec, .int .i64 sj, .int .i64 pa, .int .i64 ep, .int .i64 nd, .int .i64 no, .int .i64 tr, .int .i64 si]] [] (.agg #[.string nm, .string sec, .int .i64 0, .int .i64 (-1), .int .i64 0, .int .i64 (-1), .int .i64 no, .int .i64 0, .int .i64 0]) [] := by
  refine acalls_law Tryz.func79 rfl rfl rfl ?_
  repeat' first | intro h1 | intro h1 | refine st ?_ | refine stm ?_ | refine Ja ?_ | refine Jb ?_ | refine Jc ?_ | refine Jd ?_ | refine Je ?_ | refine Jf ?_ | refine Jg ?_ | refine Jh ?_ ?_ | refine Ji ?_ ?_ | refine Jj ?_ ?_ | refine run_nil ?_ | refine Jz ?_ | refine Jw ?_ | refine aw_block ?_ | refine Jq ?_ | refine Jr ?_ | refine Js ?_ | refine Jt ?_ | refine Ju ?_ ?_ | refine Jv ?_ ?_ | refine Jy ?_ | refine aw_exit ?_ | refine aw_ret ?_ | refine pp_ret ?_ | refine pp_normal ?_
  all_goals first
    | rfl
    | (exfalso; omega)
    | (simp [retOf]; done)
    | (exfalso; simp_all; done)
    | (exfalso; simp only [Bool.not_eq_true', Bool.not_eq_false', decide_eq_true_eq, decide_eq_false_iff_not, Bool.not_false, Bool.not_true] at *; omega)
set_option maxHeartbeats 1000000 in
theorem ac_jStart (nm sec : ByteArray) : ACalls Tryz.prog 31 [.string nm, .string sec] [] (.tuple #[cond (nmB nm && scB sec) (.agg #[.string nm, .string sec, .int .i64 0, .int .i64 (-1), .int .i64 0, .int .i64 (-1), .int .i64 0, .int .i64 0, .int .i64 0]) (.agg #[.string ⟨#[]⟩, .string ⟨#[]⟩, .int .i64 0, .int .i64 0, .int .i64 0, .int .i64 0, .int .i64 0, .int .i64 0, .int .i64 0]), .int .i64 (cond (nmB nm) (cond (scB sec) 0 1) 4)]) [] := by
  obtain ⟨a, ha⟩ : ∃ a, nmB nm = a := ⟨_, rfl⟩
  obtain ⟨c, hc⟩ : ∃ c, scB sec = c := ⟨_, rfl⟩
  have HN := ac_name nm a ha
  have HS := ac_secret sec c hc
  have HA := ac_anew nm sec 0 0 0 0 0 0 0
  rw [ha, hc]
  clear ha hc
  cases a
  · refine acalls_law Tryz.func31 rfl rfl rfl ?_
    repeat' first | intro h1 | intro h1 | refine st (h := ok_not_dec2 rfl) ?_ | refine st ?_ | refine st_call (HN) ?_ | refine st_call (HS) ?_ | refine st_call (HA) ?_ | refine sd_call (HN) ?_ | refine sd_call (HS) ?_ | refine sd_call (HA) ?_ | refine stm ?_ | refine Ja ?_ | refine Jb ?_ | refine Jc ?_ | refine Jd ?_ | refine Je ?_ | refine Jf ?_ | refine Jg ?_ | refine Jh ?_ ?_ | refine Ji ?_ ?_ | refine Jj ?_ ?_ | refine run_nil ?_ | refine Jz ?_ | refine Jw ?_ | refine aw_block ?_ | refine Jq ?_ | refine Jr ?_ | refine Js ?_ | refine Jt ?_ | refine Ju ?_ ?_ | refine Jv ?_ ?_ | refine Jy ?_ | refine aw_exit ?_ | refine aw_ret ?_ | refine pp_ret ?_ | refine pp_normal ?_
    all_goals first
      | rfl
      | (exfalso; omega)
      | (simp [retOf]; done)
      | (exfalso; simp_all; done)
      | (exfalso; simp only [Bool.not_eq_true', Bool.not_eq_false', decide_eq_true_eq, decide_eq_false_iff_not, Bool.not_false, Bool.not_true] at *; omega)
  cases c
  · refine acalls_law Tryz.func31 rfl rfl rfl ?_
    repeat' first | intro h1 | intro h1 | refine st (h := ok_not_dec2 rfl) ?_ | refine st ?_ | refine st_call (HN) ?_ | refine st_call (HS) ?_ | refine st_call (HA) ?_ | refine sd_call (HN) ?_ | refine sd_call (HS) ?_ | refine sd_call (HA) ?_ | refine stm ?_ | refine Ja ?_ | refine Jb ?_ | refine Jc ?_ | refine Jd ?_ | refine Je ?_ | refine Jf ?_ | refine Jg ?_ | refine Jh ?_ ?_ | refine Ji ?_ ?_ | refine Jj ?_ ?_ | refine run_nil ?_ | refine Jz ?_ | refine Jw ?_ | refine aw_block ?_ | refine Jq ?_ | refine Jr ?_ | refine Js ?_ | refine Jt ?_ | refine Ju ?_ ?_ | refine Jv ?_ ?_ | refine Jy ?_ | refine aw_exit ?_ | refine aw_ret ?_ | refine pp_ret ?_ | refine pp_normal ?_
    all_goals first
      | rfl
      | (exfalso; omega)
      | (simp [retOf]; done)
      | (exfalso; simp_all; done)
      | (exfalso; simp only [Bool.not_eq_true', Bool.not_eq_false', decide_eq_true_eq, decide_eq_false_iff_not, Bool.not_false, Bool.not_true] at *; omega)
  · refine acalls_law Tryz.func31 rfl rfl rfl ?_
    repeat' first | intro h1 | intro h1 | refine st (h := ok_not_dec2 rfl) ?_ | refine st ?_ | refine st_call (HN) ?_ | refine st_call (HS) ?_ | refine st_call (HA) ?_ | refine sd_call (HN) ?_ | refine sd_call (HS) ?_ | refine sd_call (HA) ?_ | refine stm ?_ | refine Ja ?_ | refine Jb ?_ | refine Jc ?_ | refine Jd ?_ | refine Je ?_ | refine Jf ?_ | refine Jg ?_ | refine Jh ?_ ?_ | refine Ji ?_ ?_ | refine Jj ?_ ?_ | refine run_nil ?_ | refine Jz ?_ | refine Jw ?_ | refine aw_block ?_ | refine Jq ?_ | refine Jr ?_ | refine Js ?_ | refine Jt ?_ | refine Ju ?_ ?_ | refine Jv ?_ ?_ | refine Jy ?_ | refine aw_exit ?_ | refine aw_ret ?_ | refine pp_ret ?_ | refine pp_normal ?_
    all_goals first
      | rfl
      | (exfalso; omega)
      | (simp [retOf]; done)
      | (exfalso; simp_all; done)
      | (exfalso; simp only [Bool.not_eq_true', Bool.not_eq_false', decide_eq_true_eq, decide_eq_false_iff_not, Bool.not_false, Bool.not_true] at *; omega)
end Go.Proofs.YtdbcbclapipgdaaGreatDoor
