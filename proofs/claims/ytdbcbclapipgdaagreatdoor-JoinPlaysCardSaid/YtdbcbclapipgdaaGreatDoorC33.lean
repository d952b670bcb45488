/- Join: begun, waited (both); Join: what a law wants of other texts (plays). -/
import Derived.Test.YtdbcbclapipgdaaGreatDoorVO
import Derived.Test.YtdbcbclapipgdaaGreatDoorJ
import Derived.Test.YtdbcbclapipgdaaGreatDoorC42
import Derived.Test.YtdbcbclapipgdaaGreatDoorC47
set_option linter.unusedVariables false
set_option linter.unusedSimpArgs false
namespace Go.Proofs.YtdbcbclapipgdaaGreatDoor
open Go Av
set_option maxRecDepth 20000
set_option maxHeartbeats 2000000 in
theorem ac_jWait1 (nm sec : ByteArray) (sj pa ep nd no tr si : Int) (slot w : Int) (hr : -9223372036854775808 ≤ slot ∧ slot ≤ 9223372036854775807) (h : (chJ nm sec sj pa ep nd no tr si && decide (sj = 2 ∧ 0 ≤ slot ∧ w ≤ slot - si)) = true) (ht : tr = 4) : ACalls Tryz.prog 35 [.agg #[.string nm, .string sec, .int .i64 sj, .int .i64 pa, .int .i64 ep, .int .i64 nd, .int .i64 no, .int .i64 tr, .int .i64 si], .int .i64 slot, .int .i64 w] [] (.tuple #[.agg #[.string nm, .string sec, .int .i64 0, .int .i64 (-1), .int .i64 0, .int .i64 (-1), .int .i64 no, .int .i64 0, .int .i64 0], .bool true]) [] := by
  obtain ⟨hx, h⟩ := and_t h
  obtain ⟨h1, h2, h3⟩ := of_decide_eq_true h
  have hy : decide (sj = 2) = true := decide_eq_true h1
  have HC := ac_jin nm sec sj pa ep nd no tr si 2 true true hx hy
  have HA := ac_anew nm sec sj pa ep nd no tr si
  obtain ⟨_, _, ⟨_, _, hs, _⟩, _⟩ := chJ_t hx
  clear hx h hy
  refine acalls_law Tryz.func35 rfl rfl rfl ?_
  repeat' first | intro h1 | intro h1 | refine st ?_ | refine st_call (HC) ?_ | refine st_call (HA) ?_ | refine sd_call (HC) ?_ | refine sd_call (HA) ?_ | refine stm ?_ | refine Ja ?_ | refine Jb ?_ | refine Jc ?_ | refine Jd ?_ | refine Je ?_ | refine Jf ?_ | refine Jg ?_ | refine Jh ?_ ?_ | refine Ji ?_ ?_ | refine Jj ?_ ?_ | refine run_nil ?_ | refine Jz ?_ | refine Jw ?_ | refine aw_block ?_ | refine Jq ?_ | refine Jr ?_ | refine Js ?_ | refine Jt ?_ | refine Ju ?_ ?_ | refine Jv ?_ ?_ | refine Jy ?_ | refine aw_exit ?_ | refine aw_ret ?_ | refine pp_ret ?_ | refine pp_normal ?_
  all_goals first
    | rfl
    | (exfalso; omega)
    | (simp [retOf]; done)
    | (exfalso; simp_all; done)
    | (exfalso; simp only [Bool.not_eq_true', Bool.not_eq_false', decide_eq_true_eq, decide_eq_false_iff_not, Bool.not_false, Bool.not_true] at *; omega)
set_option maxHeartbeats 2000000 in
theorem ac_jWait2 (nm sec : ByteArray) (sj pa ep nd no tr si : Int) (slot w : Int) (hr : -9223372036854775808 ≤ slot ∧ slot ≤ 9223372036854775807) (h : (chJ nm sec sj pa ep nd no tr si && decide (sj = 2 ∧ 0 ≤ slot ∧ w ≤ slot - si)) = true) (ht : tr ≠ 4) : ACalls Tryz.prog 35 [.agg #[.string nm, .string sec, .int .i64 sj, .int .i64 pa, .int .i64 ep, .int .i64 nd, .int .i64 no, .int .i64 tr, .int .i64 si], .int .i64 slot, .int .i64 w] [] (.tuple #[.agg #[.string nm, .string sec, .int .i64 1, .int .i64 pa, .int .i64 ep, .int .i64 nd, .int .i64 no, .int .i64 tr, .int .i64 si], .bool true]) [] := by
  obtain ⟨hx, h⟩ := and_t h
  obtain ⟨h1, h2, h3⟩ := of_decide_eq_true h
  have hy : decide (sj = 2) = true := decide_eq_true h1
  have HC := ac_jin nm sec sj pa ep nd no tr si 2 true true hx hy
  have HA := ac_anew nm sec sj pa ep nd no tr si
  obtain ⟨_, _, ⟨_, _, hs, _, ht4⟩, _⟩ := chJ_t hx
  clear hx h hy
  refine acalls_law Tryz.func35 rfl rfl rfl ?_
  repeat' first | intro h1 | intro h1 | refine st ?_ | refine st_call (HC) ?_ | refine st_call (HA) ?_ | refine sd_call (HC) ?_ | refine sd_call (HA) ?_ | refine stm ?_ | refine Ja ?_ | refine Jb ?_ | refine Jc ?_ | refine Jd ?_ | refine Je ?_ | refine Jf ?_ | refine Jg ?_ | refine Jh ?_ ?_ | refine Ji ?_ ?_ | refine Jj ?_ ?_ | refine run_nil ?_ | refine Jz ?_ | refine Jw ?_ | refine aw_block ?_ | refine Jq ?_ | refine Jr ?_ | refine Js ?_ | refine Jt ?_ | refine Ju ?_ ?_ | refine Jv ?_ ?_ | refine Jy ?_ | refine aw_exit ?_ | refine aw_ret ?_ | refine pp_ret ?_ | refine pp_normal ?_
  all_goals first
    | rfl
    | (exfalso; omega)
    | (simp [retOf]; done)
    | (exfalso; simp_all; done)
    | (exfalso; simp only [Bool.not_eq_true', Bool.not_eq_false', decide_eq_true_eq, decide_eq_false_iff_not, Bool.not_false, Bool.not_true] at *; omega)
theorem use_plays : True := by
  have := @ac_awake
  have := @ac_jStart
  have := @ac_open
  have := @ac_jHear
  have := @ac_jReq1
  have := @adm_go
  have := @ac_jTake0
  have := @ac_jCheck
  have := @ac_jWait1
  have := @ac_jWait2
  have := @ac_jMembers
  have := @op_op
  have := @hrB_no
  have := @hrB_first
  have := @fdx_at
  have := @fdx_step
  have := @fdx_no
  have := @fdx_pos
  have := @pu_ch
  have := @pu_nm
  have := @set_same
  have := @opD_size
  have := @op_hr
  trivial
end Go.Proofs.YtdbcbclapipgdaaGreatDoor
