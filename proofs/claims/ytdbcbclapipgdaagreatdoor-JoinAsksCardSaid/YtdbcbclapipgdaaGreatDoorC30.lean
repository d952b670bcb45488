/- Join: Request and Take (both); JoinAsks: the law. -/
import Derived.Test.YtdbcbclapipgdaaGreatDoorVO
import Derived.Test.YtdbcbclapipgdaaGreatDoorJ
import Derived.Test.YtdbcbclapipgdaaGreatDoorC17
import Derived.Test.YtdbcbclapipgdaaGreatDoorC19
import Derived.Test.YtdbcbclapipgdaaGreatDoorC20
import Derived.Test.YtdbcbclapipgdaaGreatDoorC46
set_option linter.unusedVariables false
set_option linter.unusedSimpArgs false
namespace Go.Proofs.YtdbcbclapipgdaaGreatDoor
open Go Av
set_option maxRecDepth 20000
set_option maxHeartbeats 2000000 in
theorem ac_jReq0 (nm sec : ByteArray) (sj pa ep nd no tr si : Int) (slot : Int) (e : Int) (h : (if chJ nm sec sj pa ep nd no tr si = false then 1 else if ¬ (0 ≤ slot ∧ slot ≤ 109951162) then 2 else if sj ≠ 1 then 12 else if no = 2147483647 then 21 else 0) = e) (he : e ≠ 0) : ACalls Tryz.prog 14 [.agg #[.string nm, .string sec, .int .i64 sj, .int .i64 pa, .int .i64 ep, .int .i64 nd, .int .i64 no, .int .i64 tr, .int .i64 si], .int .i64 slot] [] (.tuple #[.agg #[.string ⟨#[]⟩, .string ⟨#[]⟩, .int .i64 0, .int .i64 0, .int .i64 0, .int .i64 0, .int .i64 0, .int .i64 0, .int .i64 0], .agg #[.string ⟨#[]⟩, .int .i64 0, .string ⟨#[]⟩], .int .i64 e]) [] := by
  obtain ⟨x, hx⟩ : ∃ x, chJ nm sec sj pa ep nd no tr si = x := ⟨_, rfl⟩
  have HC := ac_jCheck nm sec sj pa ep nd no tr si x hx
  have HW := ac_jwithin slot 0 109951162
  rw [hx] at h
  clear hx
  cases x
  · rw [if_pos rfl] at h
    subst h
    refine acalls_law Tryz.func14 rfl rfl rfl ?_
    repeat' first | intro h1 | intro h1 | refine st (h := ok_not_dec2 rfl) ?_ | refine sd (h := ok_not_dec2 rfl) ?_ | refine st ?_ | refine st_call (HC) ?_ | refine st_call (HW) ?_ | refine sd_call (HC) ?_ | refine sd_call (HW) ?_ | refine stm ?_ | refine Ja ?_ | refine Jb ?_ | refine Jc ?_ | refine Jd ?_ | refine Je ?_ | refine Jf ?_ | refine Jg ?_ | refine Jh ?_ ?_ | refine Ji ?_ ?_ | refine Jj ?_ ?_ | refine run_nil ?_ | refine Own.so ?_ | refine Own.sol ?_ | refine Own.som (n := 1) ?_ | refine Own.som ?_ | refine Own.sow ?_ | refine Own.sob ?_ | refine Own.runo_want rfl rfl ?_ | refine Own.runo_unwant rfl rfl ?_ | refine Own.runo_undef rfl rfl ?_ | refine Own.runo_guard1 rfl rfl (fun h1 => ?_) (fun h1 => ?_) | refine Own.runo_guard0 rfl rfl (fun h1 => ?_) (fun h1 => ?_) | refine Own.runo_guard rfl rfl (fun h1 => ?_) (fun h1 => ?_) | refine Own.runo_nil ?_ | refine sd ?_ | refine sdl ?_ | refine sdm (n := 1) ?_ | refine sdm ?_ | refine sdb ?_ | refine Jk ?_ | refine Jl ?_ | refine Jm ?_ | refine Jn ?_ ?_ | refine Jo ?_ ?_ | refine Jp ?_ ?_ | refine rund_nil ?_ | refine Jz ?_ | refine Jw ?_ | refine aw_region_oC (id := 10) [0, 0, 2, 0, 8, 0, 32, 0, 128, 0, 512, 1536, 4064, 8190, 8161, 32767, 65535] 15 [[], [], [], [], [], [], [], [], [], [], [], [], [], [], [1], [], []] (by (repeat constructor)) (by kernel_rfl) (by kernel_rfl) (by kernel_rfl) (by rfl) (by rfl) ?_ | refine aw_block ?_ | refine Jq ?_ | refine Jr ?_ | refine Js ?_ | refine Jt ?_ | refine Ju ?_ ?_ | refine Jv ?_ ?_ | refine Jy ?_ | refine aw_exit ?_ | refine aw_ret ?_ | refine pp_ret ?_ | refine pp_normal ?_
    all_goals first
      | rfl
      | (exfalso; omega)
      | (simp [retOf]; done)
      | (exfalso; simp_all; done)
      | (exfalso; simp only [Bool.not_eq_true', Bool.not_eq_false', decide_eq_true_eq, decide_eq_false_iff_not, Bool.not_false, Bool.not_true] at *; omega)
  rw [if_neg (by decide)] at h
  by_cases h1 : 0 ≤ slot ∧ slot ≤ 109951162
  case neg =>
    rw [if_pos h1] at h
    subst h
    refine acalls_law Tryz.func14 rfl rfl rfl ?_
    repeat' first | intro h1 | intro h1 | refine st (h := ok_not_dec2 rfl) ?_ | refine sd (h := ok_not_dec2 rfl) ?_ | refine st ?_ | refine st_call (HC) ?_ | refine st_call (HW) ?_ | refine sd_call (HC) ?_ | refine sd_call (HW) ?_ | refine stm ?_ | refine Ja ?_ | refine Jb ?_ | refine Jc ?_ | refine Jd ?_ | refine Je ?_ | refine Jf ?_ | refine Jg ?_ | refine Jh ?_ ?_ | refine Ji ?_ ?_ | refine Jj ?_ ?_ | refine run_nil ?_ | refine Own.so ?_ | refine Own.sol ?_ | refine Own.som (n := 1) ?_ | refine Own.som ?_ | refine Own.sow ?_ | refine Own.sob ?_ | refine Own.runo_want rfl rfl ?_ | refine Own.runo_unwant rfl rfl ?_ | refine Own.runo_undef rfl rfl ?_ | refine Own.runo_guard1 rfl rfl (fun h1 => ?_) (fun h1 => ?_) | refine Own.runo_guard0 rfl rfl (fun h1 => ?_) (fun h1 => ?_) | refine Own.runo_guard rfl rfl (fun h1 => ?_) (fun h1 => ?_) | refine Own.runo_nil ?_ | refine sd ?_ | refine sdl ?_ | refine sdm (n := 1) ?_ | refine sdm ?_ | refine sdb ?_ | refine Jk ?_ | refine Jl ?_ | refine Jm ?_ | refine Jn ?_ ?_ | refine Jo ?_ ?_ | refine Jp ?_ ?_ | refine rund_nil ?_ | refine Jz ?_ | refine Jw ?_ | refine aw_region_oC (id := 10) [0, 0, 2, 0, 8, 0, 32, 0, 128, 0, 512, 1536, 4064, 8190, 8161, 32767, 65535] 15 [[], [], [], [], [], [], [], [], [], [], [], [], [], [], [1], [], []] (by (repeat constructor)) (by kernel_rfl) (by kernel_rfl) (by kernel_rfl) (by rfl) (by rfl) ?_ | refine aw_block ?_ | refine Jq ?_ | refine Jr ?_ | refine Js ?_ | refine Jt ?_ | refine Ju ?_ ?_ | refine Jv ?_ ?_ | refine Jy ?_ | refine aw_exit ?_ | refine aw_ret ?_ | refine pp_ret ?_ | refine pp_normal ?_
    all_goals first
      | rfl
      | (exfalso; omega)
      | (simp [retOf]; done)
      | (exfalso; simp_all; done)
      | (exfalso; simp only [Bool.not_eq_true', Bool.not_eq_false', decide_eq_true_eq, decide_eq_false_iff_not, Bool.not_false, Bool.not_true] at *; omega)
  rw [if_neg (by omega)] at h
  by_cases h2 : sj = 1
  case neg =>
    rw [if_pos h2] at h
    subst h
    refine acalls_law Tryz.func14 rfl rfl rfl ?_
    repeat' first | intro h1 | intro h1 | refine st (h := ok_not_dec2 rfl) ?_ | refine sd (h := ok_not_dec2 rfl) ?_ | refine st ?_ | refine st_call (HC) ?_ | refine st_call (HW) ?_ | refine sd_call (HC) ?_ | refine sd_call (HW) ?_ | refine stm ?_ | refine Ja ?_ | refine Jb ?_ | refine Jc ?_ | refine Jd ?_ | refine Je ?_ | refine Jf ?_ | refine Jg ?_ | refine Jh ?_ ?_ | refine Ji ?_ ?_ | refine Jj ?_ ?_ | refine run_nil ?_ | refine Own.so ?_ | refine Own.sol ?_ | refine Own.som (n := 1) ?_ | refine Own.som ?_ | refine Own.sow ?_ | refine Own.sob ?_ | refine Own.runo_want rfl rfl ?_ | refine Own.runo_unwant rfl rfl ?_ | refine Own.runo_undef rfl rfl ?_ | refine Own.runo_guard1 rfl rfl (fun h1 => ?_) (fun h1 => ?_) | refine Own.runo_guard0 rfl rfl (fun h1 => ?_) (fun h1 => ?_) | refine Own.runo_guard rfl rfl (fun h1 => ?_) (fun h1 => ?_) | refine Own.runo_nil ?_ | refine sd ?_ | refine sdl ?_ | refine sdm (n := 1) ?_ | refine sdm ?_ | refine sdb ?_ | refine Jk ?_ | refine Jl ?_ | refine Jm ?_ | refine Jn ?_ ?_ | refine Jo ?_ ?_ | refine Jp ?_ ?_ | refine rund_nil ?_ | refine Jz ?_ | refine Jw ?_ | refine aw_region_oC (id := 10) [0, 0, 2, 0, 8, 0, 32, 0, 128, 0, 512, 1536, 4064, 8190, 8161, 32767, 65535] 15 [[], [], [], [], [], [], [], [], [], [], [], [], [], [], [1], [], []] (by (repeat constructor)) (by kernel_rfl) (by kernel_rfl) (by kernel_rfl) (by rfl) (by rfl) ?_ | refine aw_block ?_ | refine Jq ?_ | refine Jr ?_ | refine Js ?_ | refine Jt ?_ | refine Ju ?_ ?_ | refine Jv ?_ ?_ | refine Jy ?_ | refine aw_exit ?_ | refine aw_ret ?_ | refine pp_ret ?_ | refine pp_normal ?_
    all_goals first
      | rfl
      | (exfalso; omega)
      | (simp [retOf]; done)
      | (exfalso; simp_all; done)
      | (exfalso; simp only [Bool.not_eq_true', Bool.not_eq_false', decide_eq_true_eq, decide_eq_false_iff_not, Bool.not_false, Bool.not_true] at *; omega)
  rw [if_neg (by omega)] at h
  by_cases h3 : no = 2147483647
  · rw [if_pos h3] at h
    subst h
    refine acalls_law Tryz.func14 rfl rfl rfl ?_
    repeat' first | intro h1 | intro h1 | refine st (h := ok_not_dec2 rfl) ?_ | refine sd (h := ok_not_dec2 rfl) ?_ | refine st ?_ | refine st_call (HC) ?_ | refine st_call (HW) ?_ | refine sd_call (HC) ?_ | refine sd_call (HW) ?_ | refine stm ?_ | refine Ja ?_ | refine Jb ?_ | refine Jc ?_ | refine Jd ?_ | refine Je ?_ | refine Jf ?_ | refine Jg ?_ | refine Jh ?_ ?_ | refine Ji ?_ ?_ | refine Jj ?_ ?_ | refine run_nil ?_ | refine Own.so ?_ | refine Own.sol ?_ | refine Own.som (n := 1) ?_ | refine Own.som ?_ | refine Own.sow ?_ | refine Own.sob ?_ | refine Own.runo_want rfl rfl ?_ | refine Own.runo_unwant rfl rfl ?_ | refine Own.runo_undef rfl rfl ?_ | refine Own.runo_guard1 rfl rfl (fun h1 => ?_) (fun h1 => ?_) | refine Own.runo_guard0 rfl rfl (fun h1 => ?_) (fun h1 => ?_) | refine Own.runo_guard rfl rfl (fun h1 => ?_) (fun h1 => ?_) | refine Own.runo_nil ?_ | refine sd ?_ | refine sdl ?_ | refine sdm (n := 1) ?_ | refine sdm ?_ | refine sdb ?_ | refine Jk ?_ | refine Jl ?_ | refine Jm ?_ | refine Jn ?_ ?_ | refine Jo ?_ ?_ | refine Jp ?_ ?_ | refine rund_nil ?_ | refine Jz ?_ | refine Jw ?_ | refine aw_region_oC (id := 10) [0, 0, 2, 0, 8, 0, 32, 0, 128, 0, 512, 1536, 4064, 8190, 8161, 32767, 65535] 15 [[], [], [], [], [], [], [], [], [], [], [], [], [], [], [1], [], []] (by (repeat constructor)) (by kernel_rfl) (by kernel_rfl) (by kernel_rfl) (by rfl) (by rfl) ?_ | refine aw_block ?_ | refine Jq ?_ | refine Jr ?_ | refine Js ?_ | refine Jt ?_ | refine Ju ?_ ?_ | refine Jv ?_ ?_ | refine Jy ?_ | refine aw_exit ?_ | refine aw_ret ?_ | refine pp_ret ?_ | refine pp_normal ?_
    all_goals first
      | rfl
      | (exfalso; omega)
      | (simp [retOf]; done)
      | (exfalso; simp_all; done)
      | (exfalso; simp only [Bool.not_eq_true', Bool.not_eq_false', decide_eq_true_eq, decide_eq_false_iff_not, Bool.not_false, Bool.not_true] at *; omega)
  · rw [if_neg h3] at h
    exact absurd h.symm he
set_option maxHeartbeats 2000000 in
theorem ac_rjReq0 (nm sec : ByteArray) (sj pa ep nd no tr si : Int) (slot : Int) (e : Int) (h : (if chJ nm sec sj pa ep nd no tr si = false then 1 else if ¬ (0 ≤ slot ∧ slot ≤ 109951162) then 2 else if sj ≠ 1 then 12 else if no = 2147483647 then 21 else 0) = e) (he : e ≠ 0) : ACalls Tryz.prog 15 [.agg #[.string nm, .string sec, .int .i64 sj, .int .i64 pa, .int .i64 ep, .int .i64 nd, .int .i64 no, .int .i64 tr, .int .i64 si], .int .i64 slot] [] (.tuple #[.agg #[.string ⟨#[]⟩, .string ⟨#[]⟩, .int .i64 0, .int .i64 0, .int .i64 0, .int .i64 0, .int .i64 0, .int .i64 0, .int .i64 0], .agg #[.string ⟨#[]⟩, .int .i64 0, .string ⟨#[]⟩], .int .i64 e]) [] := by
  obtain ⟨x, hx⟩ : ∃ x, chJ nm sec sj pa ep nd no tr si = x := ⟨_, rfl⟩
  have HC := ac_rjCheck nm sec sj pa ep nd no tr si x hx
  have HW := ac_jwithin slot 0 109951162
  rw [hx] at h
  clear hx
  cases x
  · rw [if_pos rfl] at h
    subst h
    refine acalls_law Tryz.func15 rfl rfl rfl ?_
    repeat' first | intro h1 | intro h1 | refine st ?_ | refine st_call (HC) ?_ | refine st_call (HW) ?_ | refine sd_call (HC) ?_ | refine sd_call (HW) ?_ | refine stm ?_ | refine Ja ?_ | refine Jb ?_ | refine Jc ?_ | refine Jd ?_ | refine Je ?_ | refine Jf ?_ | refine Jg ?_ | refine Jh ?_ ?_ | refine Ji ?_ ?_ | refine Jj ?_ ?_ | refine run_nil ?_ | refine Own.so ?_ | refine Own.sol ?_ | refine Own.som (n := 1) ?_ | refine Own.som ?_ | refine Own.sow ?_ | refine Own.sob ?_ | refine Own.runo_want rfl rfl ?_ | refine Own.runo_unwant rfl rfl ?_ | refine Own.runo_undef rfl rfl ?_ | refine Own.runo_guard1 rfl rfl (fun h1 => ?_) (fun h1 => ?_) | refine Own.runo_guard0 rfl rfl (fun h1 => ?_) (fun h1 => ?_) | refine Own.runo_guard rfl rfl (fun h1 => ?_) (fun h1 => ?_) | refine Own.runo_nil ?_ | refine sd ?_ | refine sdl ?_ | refine sdm (n := 1) ?_ | refine sdm ?_ | refine sdb ?_ | refine Jk ?_ | refine Jl ?_ | refine Jm ?_ | refine Jn ?_ ?_ | refine Jo ?_ ?_ | refine Jp ?_ ?_ | refine rund_nil ?_ | refine Jz ?_ | refine Jw ?_ | refine aw_region_oC (id := 12) [0, 0, 1, 7, 15] 3 [[], [], [1], [], []] (by (repeat constructor)) (by kernel_rfl) (by kernel_rfl) (by kernel_rfl) (by rfl) (by rfl) ?_ | refine aw_block ?_ | refine Jq ?_ | refine Jr ?_ | refine Js ?_ | refine Jt ?_ | refine Ju ?_ ?_ | refine Jv ?_ ?_ | refine Jy ?_ | refine aw_exit ?_ | refine aw_ret ?_ | refine pp_ret ?_ | refine pp_normal ?_
    all_goals first
      | rfl
      | (exfalso; omega)
      | (simp [retOf]; done)
      | (exfalso; simp_all; done)
      | (exfalso; simp only [Bool.not_eq_true', Bool.not_eq_false', decide_eq_true_eq, decide_eq_false_iff_not, Bool.not_false, Bool.not_true] at *; omega)
  rw [if_neg (by decide)] at h
  by_cases h1 : 0 ≤ slot ∧ slot ≤ 109951162
  case neg =>
    rw [if_pos h1] at h
    subst h
    refine acalls_law Tryz.func15 rfl rfl rfl ?_
    repeat' first | intro h1 | intro h1 | refine st ?_ | refine st_call (HC) ?_ | refine st_call (HW) ?_ | refine sd_call (HC) ?_ | refine sd_call (HW) ?_ | refine stm ?_ | refine Ja ?_ | refine Jb ?_ | refine Jc ?_ | refine Jd ?_ | refine Je ?_ | refine Jf ?_ | refine Jg ?_ | refine Jh ?_ ?_ | refine Ji ?_ ?_ | refine Jj ?_ ?_ | refine run_nil ?_ | refine Own.so ?_ | refine Own.sol ?_ | refine Own.som (n := 1) ?_ | refine Own.som ?_ | refine Own.sow ?_ | refine Own.sob ?_ | refine Own.runo_want rfl rfl ?_ | refine Own.runo_unwant rfl rfl ?_ | refine Own.runo_undef rfl rfl ?_ | refine Own.runo_guard1 rfl rfl (fun h1 => ?_) (fun h1 => ?_) | refine Own.runo_guard0 rfl rfl (fun h1 => ?_) (fun h1 => ?_) | refine Own.runo_guard rfl rfl (fun h1 => ?_) (fun h1 => ?_) | refine Own.runo_nil ?_ | refine sd ?_ | refine sdl ?_ | refine sdm (n := 1) ?_ | refine sdm ?_ | refine sdb ?_ | refine Jk ?_ | refine Jl ?_ | refine Jm ?_ | refine Jn ?_ ?_ | refine Jo ?_ ?_ | refine Jp ?_ ?_ | refine rund_nil ?_ | refine Jz ?_ | refine Jw ?_ | refine aw_region_oC (id := 12) [0, 0, 1, 7, 15] 3 [[], [], [1], [], []] (by (repeat constructor)) (by kernel_rfl) (by kernel_rfl) (by kernel_rfl) (by rfl) (by rfl) ?_ | refine aw_block ?_ | refine Jq ?_ | refine Jr ?_ | refine Js ?_ | refine Jt ?_ | refine Ju ?_ ?_ | refine Jv ?_ ?_ | refine Jy ?_ | refine aw_exit ?_ | refine aw_ret ?_ | refine pp_ret ?_ | refine pp_normal ?_
    all_goals first
      | rfl
      | (exfalso; omega)
      | (simp [retOf]; done)
      | (exfalso; simp_all; done)
      | (exfalso; simp only [Bool.not_eq_true', Bool.not_eq_false', decide_eq_true_eq, decide_eq_false_iff_not, Bool.not_false, Bool.not_true] at *; omega)
  rw [if_neg (by omega)] at h
  by_cases h2 : sj = 1
  case neg =>
    rw [if_pos h2] at h
    subst h
    refine acalls_law Tryz.func15 rfl rfl rfl ?_
    repeat' first | intro h1 | intro h1 | refine st ?_ | refine st_call (HC) ?_ | refine st_call (HW) ?_ | refine sd_call (HC) ?_ | refine sd_call (HW) ?_ | refine stm ?_ | refine Ja ?_ | refine Jb ?_ | refine Jc ?_ | refine Jd ?_ | refine Je ?_ | refine Jf ?_ | refine Jg ?_ | refine Jh ?_ ?_ | refine Ji ?_ ?_ | refine Jj ?_ ?_ | refine run_nil ?_ | refine Own.so ?_ | refine Own.sol ?_ | refine Own.som (n := 1) ?_ | refine Own.som ?_ | refine Own.sow ?_ | refine Own.sob ?_ | refine Own.runo_want rfl rfl ?_ | refine Own.runo_unwant rfl rfl ?_ | refine Own.runo_undef rfl rfl ?_ | refine Own.runo_guard1 rfl rfl (fun h1 => ?_) (fun h1 => ?_) | refine Own.runo_guard0 rfl rfl (fun h1 => ?_) (fun h1 => ?_) | refine Own.runo_guard rfl rfl (fun h1 => ?_) (fun h1 => ?_) | refine Own.runo_nil ?_ | refine sd ?_ | refine sdl ?_ | refine sdm (n := 1) ?_ | refine sdm ?_ | refine sdb ?_ | refine Jk ?_ | refine Jl ?_ | refine Jm ?_ | refine Jn ?_ ?_ | refine Jo ?_ ?_ | refine Jp ?_ ?_ | refine rund_nil ?_ | refine Jz ?_ | refine Jw ?_ | refine aw_region_oC (id := 12) [0, 0, 1, 7, 15] 3 [[], [], [1], [], []] (by (repeat constructor)) (by kernel_rfl) (by kernel_rfl) (by kernel_rfl) (by rfl) (by rfl) ?_ | refine aw_block ?_ | refine Jq ?_ | refine Jr ?_ | refine Js ?_ | refine Jt ?_ | refine Ju ?_ ?_ | refine Jv ?_ ?_ | refine Jy ?_ | refine aw_exit ?_ | refine aw_ret ?_ | refine pp_ret ?_ | refine pp_normal ?_
    all_goals first
      | rfl
      | (exfalso; omega)
      | (simp [retOf]; done)
      | (exfalso; simp_all; done)
      | (exfalso; simp only [Bool.not_eq_true', Bool.not_eq_false', decide_eq_true_eq, decide_eq_false_iff_not, Bool.not_false, Bool.not_true] at *; omega)
  rw [if_neg (by omega)] at h
  by_cases h3 : no = 2147483647
  · rw [if_pos h3] at h
    subst h
    refine acalls_law Tryz.func15 rfl rfl rfl ?_
    repeat' first | intro h1 | intro h1 | refine st ?_ | refine st_call (HC) ?_ | refine st_call (HW) ?_ | refine sd_call (HC) ?_ | refine sd_call (HW) ?_ | refine stm ?_ | refine Ja ?_ | refine Jb ?_ | refine Jc ?_ | refine Jd ?_ | refine Je ?_ | refine Jf ?_ | refine Jg ?_ | refine Jh ?_ ?_ | refine Ji ?_ ?_ | refine Jj ?_ ?_ | refine run_nil ?_ | refine Own.so ?_ | refine Own.sol ?_ | refine Own.som (n := 1) ?_ | refine Own.som ?_ | refine Own.sow ?_ | refine Own.sob ?_ | refine Own.runo_want rfl rfl ?_ | refine Own.runo_unwant rfl rfl ?_ | refine Own.runo_undef rfl rfl ?_ | refine Own.runo_guard1 rfl rfl (fun h1 => ?_) (fun h1 => ?_) | refine Own.runo_guard0 rfl rfl (fun h1 => ?_) (fun h1 => ?_) | refine Own.runo_guard rfl rfl (fun h1 => ?_) (fun h1 => ?_) | refine Own.runo_nil ?_ | refine sd ?_ | refine sdl ?_ | refine sdm (n := 1) ?_ | refine sdm ?_ | refine sdb ?_ | refine Jk ?_ | refine Jl ?_ | refine Jm ?_ | refine Jn ?_ ?_ | refine Jo ?_ ?_ | refine Jp ?_ ?_ | refine rund_nil ?_ | refine Jz ?_ | refine Jw ?_ | refine aw_region_oC (id := 12) [0, 0, 1, 7, 15] 3 [[], [], [1], [], []] (by (repeat constructor)) (by kernel_rfl) (by kernel_rfl) (by kernel_rfl) (by rfl) (by rfl) ?_ | refine aw_block ?_ | refine Jq ?_ | refine Jr ?_ | refine Js ?_ | refine Jt ?_ | refine Ju ?_ ?_ | refine Jv ?_ ?_ | refine Jy ?_ | refine aw_exit ?_ | refine aw_ret ?_ | refine pp_ret ?_ | refine pp_normal ?_
    all_goals first
      | rfl
      | (exfalso; omega)
      | (simp [retOf]; done)
      | (exfalso; simp_all; done)
      | (exfalso; simp only [Bool.not_eq_true', Bool.not_eq_false', decide_eq_true_eq, decide_eq_false_iff_not, Bool.not_false, Bool.not_true] at *; omega)
  · rw [if_neg h3] at h
    exact absurd h.symm he
set_option maxHeartbeats 2000000 in
theorem ac_rjReq1 (nm sec : ByteArray) (sj pa ep nd no tr si : Int) (slot : Int) (hx : chJ nm sec sj pa ep nd no tr si = true) (h1 : 0 ≤ slot ∧ slot ≤ 109951162) (h2 : sj = 1) (h3 : no ≠ 2147483647) : ACalls Tryz.prog 15 [.agg #[.string nm, .string sec, .int .i64 sj, .int .i64 pa, .int .i64 ep, .int .i64 nd, .int .i64 no, .int .i64 tr, .int .i64 si], .int .i64 slot] [] (.tuple #[.agg #[.string nm, .string sec, .int .i64 2, .int .i64 pa, .int .i64 ep, .int .i64 nd, .int .i64 (no + 1), .int .i64 (tr + 1), .int .i64 slot], .agg #[.string nm, .int .i64 (no + 1), .string (acS sec nm (no + 1))], .int .i64 0]) [] := by
  have HC := ac_rjCheck nm sec sj pa ep nd no tr si true hx
  have HW := ac_jwithin slot 0 109951162
  obtain ⟨hn, hs, ⟨_, hno, _, htr, htr2⟩, _⟩ := chJ_t hx
  have hn := nmB_t hn
  have hs := scB_t hs
  have HD := ac_AskCode sec nm ⟨#[]⟩ (no + 1) (by omega) (by omega) (by omega) (by omega)
  have e1 : cdS sec (tx1 askW nm (no + 1)) = acS sec nm (no + 1) := rfl
  try rw [e1] at HD
  obtain ⟨C, hC⟩ : ∃ C, acS sec nm (no + 1) = C := ⟨_, rfl⟩
  rw [hC] at HD ⊢
  clear hx hC e1
  refine acalls_law Tryz.func15 rfl rfl rfl ?_
  repeat' first | intro h1 | intro h1 | refine st ?_ | refine st_call (HC) ?_ | refine st_call (HW) ?_ | refine sd_call (HC) ?_ | refine sd_call (HW) ?_ | refine st_call (HD) ?_ | refine sd_call (HD) ?_ | refine Own.soRW [3] HD ?_ | refine stm ?_ | refine Ja ?_ | refine Jb ?_ | refine Jc ?_ | refine Jd ?_ | refine Je ?_ | refine Jf ?_ | refine Jg ?_ | refine Jh ?_ ?_ | refine Ji ?_ ?_ | refine Jj ?_ ?_ | refine run_nil ?_ | refine Own.so ?_ | refine Own.sol ?_ | refine Own.som (n := 1) ?_ | refine Own.som ?_ | refine Own.sow ?_ | refine Own.sob ?_ | refine Own.runo_want rfl rfl ?_ | refine Own.runo_unwant rfl rfl ?_ | refine Own.runo_undef rfl rfl ?_ | refine Own.runo_guard1 rfl rfl (fun h1 => ?_) (fun h1 => ?_) | refine Own.runo_guard0 rfl rfl (fun h1 => ?_) (fun h1 => ?_) | refine Own.runo_guard rfl rfl (fun h1 => ?_) (fun h1 => ?_) | refine Own.runo_nil ?_ | refine sd ?_ | refine sdl ?_ | refine sdm (n := 1) ?_ | refine sdm ?_ | refine sdb ?_ | refine Jk ?_ | refine Jl ?_ | refine Jm ?_ | refine Jn ?_ ?_ | refine Jo ?_ ?_ | refine Jp ?_ ?_ | refine rund_nil ?_ | refine Jz ?_ | refine Jw ?_ | refine aw_region_oC (id := 12) [0, 0, 1, 7, 15] 3 [[], [], [1], [], []] (by (repeat constructor)) (by kernel_rfl) (by kernel_rfl) (by kernel_rfl) (by rfl) (by rfl) ?_ | refine aw_block ?_ | refine Jq ?_ | refine Jr ?_ | refine Js ?_ | refine Jt ?_ | refine Ju ?_ ?_ | refine Jv ?_ ?_ | refine Jy ?_ | refine aw_exit ?_ | refine aw_ret ?_ | refine pp_ret ?_ | refine pp_normal ?_
  all_goals first
    | rfl
    | (exfalso; omega)
    | (simp [retOf]; done)
    | (exfalso; simp_all; done)
    | (exfalso; simp only [Bool.not_eq_true', Bool.not_eq_false', decide_eq_true_eq, decide_eq_false_iff_not, Bool.not_false, Bool.not_true] at *; omega)
set_option maxHeartbeats 4000000 in
theorem ac_rjTake0 (nm sec : ByteArray) (sj pa ep nd no tr si : Int) (anm : ByteArray) (ano ant : Int) (acd : ByteArray) (e : Int) (h : (if chJ nm sec sj pa ep nd no tr si = false then 1 else if sj ≠ 2 then 12 else if ¬ (anB anm ano ant acd = true ∧ anm = nm ∧ ano = no) then 11 else if acd ≠ nsS sec anm ano ant then 20 else 0) = e) : ACalls Tryz.prog 17 [.agg #[.string nm, .string sec, .int .i64 sj, .int .i64 pa, .int .i64 ep, .int .i64 nd, .int .i64 no, .int .i64 tr, .int .i64 si], .agg #[.string anm, .int .i64 ano, .int .i64 ant, .string acd]] [] (.tuple #[if e = 0 then (.agg #[.string nm, .string sec, .int .i64 3, .int .i64 pa, .int .i64 ep, .int .i64 ant, .int .i64 no, .int .i64 tr, .int .i64 si] : Value) else .agg #[.string ⟨#[]⟩, .string ⟨#[]⟩, .int .i64 0, .int .i64 0, .int .i64 0, .int .i64 0, .int .i64 0, .int .i64 0, .int .i64 0], .int .i64 e]) [] := by
  obtain ⟨x, hx⟩ : ∃ x, chJ nm sec sj pa ep nd no tr si = x := ⟨_, rfl⟩
  obtain ⟨y, hy⟩ : ∃ y, decide (sj = 2) = y := ⟨_, rfl⟩
  have HC := ac_rjCheck nm sec sj pa ep nd no tr si x hx
  rw [hx] at h
  cases x
  · rw [if_pos rfl] at h
    subst h
    rw [if_neg (by decide)]
    clear hx
    cases y
    · have hy := of_decide_eq_false hy
      refine acalls_law Tryz.func17 rfl rfl rfl ?_
      repeat' first | intro h1 | intro h1 | refine st (h := ok_not_dec2 rfl) ?_ | refine sd (h := ok_not_dec2 rfl) ?_ | refine st ?_ | refine st_call (HC) ?_ | refine sd_call (HC) ?_ | refine st_call (HF) ?_ | refine sd_call (HF) ?_ | refine stm ?_ | refine Ja ?_ | refine Jb ?_ | refine Jc ?_ | refine Jd ?_ | refine Je ?_ | refine Jf ?_ | refine Jg ?_ | refine Jh ?_ ?_ | refine Ji ?_ ?_ | refine Jj ?_ ?_ | refine run_nil ?_ | refine Own.so ?_ | refine Own.sol ?_ | refine Own.som (n := 1) ?_ | refine Own.som ?_ | refine Own.sow ?_ | refine Own.sob ?_ | refine Own.runo_want rfl rfl ?_ | refine Own.runo_unwant rfl rfl ?_ | refine Own.runo_undef rfl rfl ?_ | refine Own.runo_guard1 rfl rfl (fun h1 => ?_) (fun h1 => ?_) | refine Own.runo_guard0 rfl rfl (fun h1 => ?_) (fun h1 => ?_) | refine Own.runo_guard rfl rfl (fun h1 => ?_) (fun h1 => ?_) | refine Own.runo_nil ?_ | refine sd ?_ | refine sdl ?_ | refine sdm (n := 1) ?_ | refine sdm ?_ | refine sdb ?_ | refine Jk ?_ | refine Jl ?_ | refine Jm ?_ | refine Jn ?_ ?_ | refine Jo ?_ ?_ | refine Jp ?_ ?_ | refine rund_nil ?_ | refine Jz ?_ | refine Jw ?_ | refine Jx (id := 7) [0,1,0,4,0,28,63] 7 ?_ | refine aw_region_oC (id := 9) [0, 1, 0, 4, 15, 31] 4 [[], [], [], [0], [], []] (by (repeat constructor)) (by kernel_rfl) (by kernel_rfl) (by kernel_rfl) (by rfl) (by rfl) ?_ | refine aw_block ?_ | refine Jq ?_ | refine Jr ?_ | refine Js ?_ | refine Jt ?_ | refine Ju ?_ ?_ | refine Jv ?_ ?_ | refine Jy ?_ | refine aw_exit ?_ | refine aw_ret ?_ | refine pp_ret ?_ | refine pp_normal ?_
      all_goals first
        | rfl
        | (exfalso; omega)
        | (simp [retOf]; done)
        | (exfalso; simp_all; done)
        | (exfalso; simp only [Bool.not_eq_true', Bool.not_eq_false', decide_eq_true_eq, decide_eq_false_iff_not, Bool.not_false, Bool.not_true] at *; omega)
    · have hy := of_decide_eq_true hy
      refine acalls_law Tryz.func17 rfl rfl rfl ?_
      repeat' first | intro h1 | intro h1 | refine st (h := ok_not_dec2 rfl) ?_ | refine sd (h := ok_not_dec2 rfl) ?_ | refine st ?_ | refine st_call (HC) ?_ | refine sd_call (HC) ?_ | refine st_call (HF) ?_ | refine sd_call (HF) ?_ | refine stm ?_ | refine Ja ?_ | refine Jb ?_ | refine Jc ?_ | refine Jd ?_ | refine Je ?_ | refine Jf ?_ | refine Jg ?_ | refine Jh ?_ ?_ | refine Ji ?_ ?_ | refine Jj ?_ ?_ | refine run_nil ?_ | refine Own.so ?_ | refine Own.sol ?_ | refine Own.som (n := 1) ?_ | refine Own.som ?_ | refine Own.sow ?_ | refine Own.sob ?_ | refine Own.runo_want rfl rfl ?_ | refine Own.runo_unwant rfl rfl ?_ | refine Own.runo_undef rfl rfl ?_ | refine Own.runo_guard1 rfl rfl (fun h1 => ?_) (fun h1 => ?_) | refine Own.runo_guard0 rfl rfl (fun h1 => ?_) (fun h1 => ?_) | refine Own.runo_guard rfl rfl (fun h1 => ?_) (fun h1 => ?_) | refine Own.runo_nil ?_ | refine sd ?_ | refine sdl ?_ | refine sdm (n := 1) ?_ | refine sdm ?_ | refine sdb ?_ | refine Jk ?_ | refine Jl ?_ | refine Jm ?_ | refine Jn ?_ ?_ | refine Jo ?_ ?_ | refine Jp ?_ ?_ | refine rund_nil ?_ | refine Jz ?_ | refine Jw ?_ | refine Jx (id := 7) [0,1,0,4,0,28,63] 7 ?_ | refine aw_region_oC (id := 9) [0, 1, 0, 4, 15, 31] 4 [[], [], [], [0], [], []] (by (repeat constructor)) (by kernel_rfl) (by kernel_rfl) (by kernel_rfl) (by rfl) (by rfl) ?_ | refine aw_block ?_ | refine Jq ?_ | refine Jr ?_ | refine Js ?_ | refine Jt ?_ | refine Ju ?_ ?_ | refine Jv ?_ ?_ | refine Jy ?_ | refine aw_exit ?_ | refine aw_ret ?_ | refine pp_ret ?_ | refine pp_normal ?_
      all_goals first
        | rfl
        | (exfalso; omega)
        | (simp [retOf]; done)
        | (exfalso; simp_all; done)
        | (exfalso; simp only [Bool.not_eq_true', Bool.not_eq_false', decide_eq_true_eq, decide_eq_false_iff_not, Bool.not_false, Bool.not_true] at *; omega)
  rw [if_neg (by decide)] at h
  obtain ⟨hn, hs, ⟨_, hno, _, htr, htr2⟩, _⟩ := chJ_t hx
  have hn := nmB_t hn
  have hs := scB_t hs
  clear hx
  cases y
  · have hy := of_decide_eq_false hy
    rw [if_pos hy] at h
    subst h
    rw [if_neg (by decide)]
    refine acalls_law Tryz.func17 rfl rfl rfl ?_
    repeat' first | intro h1 | intro h1 | refine st (h := ok_not_dec2 rfl) ?_ | refine sd (h := ok_not_dec2 rfl) ?_ | refine st ?_ | refine st_call (HC) ?_ | refine sd_call (HC) ?_ | refine st_call (HF) ?_ | refine sd_call (HF) ?_ | refine stm ?_ | refine Ja ?_ | refine Jb ?_ | refine Jc ?_ | refine Jd ?_ | refine Je ?_ | refine Jf ?_ | refine Jg ?_ | refine Jh ?_ ?_ | refine Ji ?_ ?_ | refine Jj ?_ ?_ | refine run_nil ?_ | refine Own.so ?_ | refine Own.sol ?_ | refine Own.som (n := 1) ?_ | refine Own.som ?_ | refine Own.sow ?_ | refine Own.sob ?_ | refine Own.runo_want rfl rfl ?_ | refine Own.runo_unwant rfl rfl ?_ | refine Own.runo_undef rfl rfl ?_ | refine Own.runo_guard1 rfl rfl (fun h1 => ?_) (fun h1 => ?_) | refine Own.runo_guard0 rfl rfl (fun h1 => ?_) (fun h1 => ?_) | refine Own.runo_guard rfl rfl (fun h1 => ?_) (fun h1 => ?_) | refine Own.runo_nil ?_ | refine sd ?_ | refine sdl ?_ | refine sdm (n := 1) ?_ | refine sdm ?_ | refine sdb ?_ | refine Jk ?_ | refine Jl ?_ | refine Jm ?_ | refine Jn ?_ ?_ | refine Jo ?_ ?_ | refine Jp ?_ ?_ | refine rund_nil ?_ | refine Jz ?_ | refine Jw ?_ | refine Jx (id := 7) [0,1,0,4,0,28,63] 7 ?_ | refine aw_region_oC (id := 9) [0, 1, 0, 4, 15, 31] 4 [[], [], [], [0], [], []] (by (repeat constructor)) (by kernel_rfl) (by kernel_rfl) (by kernel_rfl) (by rfl) (by rfl) ?_ | refine aw_block ?_ | refine Jq ?_ | refine Jr ?_ | refine Js ?_ | refine Jt ?_ | refine Ju ?_ ?_ | refine Jv ?_ ?_ | refine Jy ?_ | refine aw_exit ?_ | refine aw_ret ?_ | refine pp_ret ?_ | refine pp_normal ?_
    all_goals first
      | rfl
      | (exfalso; omega)
      | (simp [retOf]; done)
      | (exfalso; simp_all; done)
      | (exfalso; simp only [Bool.not_eq_true', Bool.not_eq_false', decide_eq_true_eq, decide_eq_false_iff_not, Bool.not_false, Bool.not_true] at *; omega)
  have hy := of_decide_eq_true hy
  rw [if_neg (by omega)] at h
  obtain ⟨z, hz⟩ : ∃ z, anB anm ano ant acd = z := ⟨_, rfl⟩
  have HF := ac_AnswerForm anm ano ant acd z hz
  rw [hz] at h
  cases z
  · rw [if_pos (by simp)] at h
    subst h
    rw [if_neg (by decide)]
    clear hz
    refine acalls_law Tryz.func17 rfl rfl rfl ?_
    repeat' first | intro h1 | intro h1 | refine st (h := ok_not_dec2 rfl) ?_ | refine sd (h := ok_not_dec2 rfl) ?_ | refine st ?_ | refine st_call (HC) ?_ | refine sd_call (HC) ?_ | refine st_call (HF) ?_ | refine sd_call (HF) ?_ | refine stm ?_ | refine Ja ?_ | refine Jb ?_ | refine Jc ?_ | refine Jd ?_ | refine Je ?_ | refine Jf ?_ | refine Jg ?_ | refine Jh ?_ ?_ | refine Ji ?_ ?_ | refine Jj ?_ ?_ | refine run_nil ?_ | refine Own.so ?_ | refine Own.sol ?_ | refine Own.som (n := 1) ?_ | refine Own.som ?_ | refine Own.sow ?_ | refine Own.sob ?_ | refine Own.runo_want rfl rfl ?_ | refine Own.runo_unwant rfl rfl ?_ | refine Own.runo_undef rfl rfl ?_ | refine Own.runo_guard1 rfl rfl (fun h1 => ?_) (fun h1 => ?_) | refine Own.runo_guard0 rfl rfl (fun h1 => ?_) (fun h1 => ?_) | refine Own.runo_guard rfl rfl (fun h1 => ?_) (fun h1 => ?_) | refine Own.runo_nil ?_ | refine sd ?_ | refine sdl ?_ | refine sdm (n := 1) ?_ | refine sdm ?_ | refine sdb ?_ | refine Jk ?_ | refine Jl ?_ | refine Jm ?_ | refine Jn ?_ ?_ | refine Jo ?_ ?_ | refine Jp ?_ ?_ | refine rund_nil ?_ | refine Jz ?_ | refine Jw ?_ | refine Jx (id := 7) [0,1,0,4,0,28,63] 7 ?_ | refine aw_region_oC (id := 9) [0, 1, 0, 4, 15, 31] 4 [[], [], [], [0], [], []] (by (repeat constructor)) (by kernel_rfl) (by kernel_rfl) (by kernel_rfl) (by rfl) (by rfl) ?_ | refine aw_block ?_ | refine Jq ?_ | refine Jr ?_ | refine Js ?_ | refine Jt ?_ | refine Ju ?_ ?_ | refine Jv ?_ ?_ | refine Jy ?_ | refine aw_exit ?_ | refine aw_ret ?_ | refine pp_ret ?_ | refine pp_normal ?_
    all_goals first
      | rfl
      | (exfalso; omega)
      | (simp [retOf]; done)
      | (exfalso; simp_all; done)
      | (exfalso; simp only [Bool.not_eq_true', Bool.not_eq_false', decide_eq_true_eq, decide_eq_false_iff_not, Bool.not_false, Bool.not_true] at *; omega)
  obtain ⟨hz1, hz2⟩ := anB_t hz
  obtain ⟨hz3, hz4, hz5⟩ := akB_t hz1
  have hz6 := nmB_t hz3
  clear hz hz1 hz3
  by_cases hw0 : anm = nm
  case neg =>
    rw [if_pos (fun q => hw0 q.2.1)] at h
    have hw : decide (anm = nm) = false := decide_eq_false hw0
    subst h
    rw [if_neg (by decide)]
    refine acalls_law Tryz.func17 rfl rfl rfl ?_
    repeat' first | intro h1 | intro h1 | refine st (h := ok_not_dec2 rfl) ?_ | refine sd (h := ok_not_dec2 rfl) ?_ | refine st (h := ok_str_eqlD rfl rfl hw) ?_ | refine st (h := ok_str_neqD rfl rfl hw) ?_ | refine sd (h := ok_str_eqlD rfl rfl hw) ?_ | refine sd (h := ok_str_neqD rfl rfl hw) ?_ | refine st ?_ | refine st_call (HC) ?_ | refine st_call (HF) ?_ | refine sd_call (HC) ?_ | refine sd_call (HF) ?_ | refine stm ?_ | refine Ja ?_ | refine Jb ?_ | refine Jc ?_ | refine Jd ?_ | refine Je ?_ | refine Jf ?_ | refine Jg ?_ | refine Jh ?_ ?_ | refine Ji ?_ ?_ | refine Jj ?_ ?_ | refine run_nil ?_ | refine Own.so ?_ | refine Own.sol ?_ | refine Own.som (n := 1) ?_ | refine Own.som ?_ | refine Own.sow ?_ | refine Own.sob ?_ | refine Own.runo_want rfl rfl ?_ | refine Own.runo_unwant rfl rfl ?_ | refine Own.runo_undef rfl rfl ?_ | refine Own.runo_guard1 rfl rfl (fun h1 => ?_) (fun h1 => ?_) | refine Own.runo_guard0 rfl rfl (fun h1 => ?_) (fun h1 => ?_) | refine Own.runo_guard rfl rfl (fun h1 => ?_) (fun h1 => ?_) | refine Own.runo_nil ?_ | refine sd ?_ | refine sdl ?_ | refine sdm (n := 1) ?_ | refine sdm ?_ | refine sdb ?_ | refine Jk ?_ | refine Jl ?_ | refine Jm ?_ | refine Jn ?_ ?_ | refine Jo ?_ ?_ | refine Jp ?_ ?_ | refine rund_nil ?_ | refine Jz ?_ | refine Jw ?_ | refine Jx (id := 7) [0,1,0,4,0,28,63] 7 ?_ | refine aw_region_oC (id := 9) [0, 1, 0, 4, 15, 31] 4 [[], [], [], [0], [], []] (by (repeat constructor)) (by kernel_rfl) (by kernel_rfl) (by kernel_rfl) (by rfl) (by rfl) ?_ | refine aw_block ?_ | refine Jq ?_ | refine Jr ?_ | refine Js ?_ | refine Jt ?_ | refine Ju ?_ ?_ | refine Jv ?_ ?_ | refine Jy ?_ | refine aw_exit ?_ | refine aw_ret ?_ | refine pp_ret ?_ | refine pp_normal ?_
    all_goals first
      | rfl
      | (exfalso; omega)
      | (simp [retOf]; done)
      | (exfalso; simp_all; done)
      | (exfalso; simp only [Bool.not_eq_true', Bool.not_eq_false', decide_eq_true_eq, decide_eq_false_iff_not, Bool.not_false, Bool.not_true] at *; omega)
  by_cases hw2 : ano = no
  case neg =>
    rw [if_pos (fun q => hw2 q.2.2)] at h
    have hw : decide (anm = nm) = true := decide_eq_true hw0
    subst h
    rw [if_neg (by decide)]
    refine acalls_law Tryz.func17 rfl rfl rfl ?_
    repeat' first | intro h1 | intro h1 | refine st (h := ok_not_dec2 rfl) ?_ | refine sd (h := ok_not_dec2 rfl) ?_ | refine st (h := ok_str_eqlD rfl rfl hw) ?_ | refine st (h := ok_str_neqD rfl rfl hw) ?_ | refine sd (h := ok_str_eqlD rfl rfl hw) ?_ | refine sd (h := ok_str_neqD rfl rfl hw) ?_ | refine st ?_ | refine st_call (HC) ?_ | refine st_call (HF) ?_ | refine sd_call (HC) ?_ | refine sd_call (HF) ?_ | refine stm ?_ | refine Ja ?_ | refine Jb ?_ | refine Jc ?_ | refine Jd ?_ | refine Je ?_ | refine Jf ?_ | refine Jg ?_ | refine Jh ?_ ?_ | refine Ji ?_ ?_ | refine Jj ?_ ?_ | refine run_nil ?_ | refine Own.so ?_ | refine Own.sol ?_ | refine Own.som (n := 1) ?_ | refine Own.som ?_ | refine Own.sow ?_ | refine Own.sob ?_ | refine Own.runo_want rfl rfl ?_ | refine Own.runo_unwant rfl rfl ?_ | refine Own.runo_undef rfl rfl ?_ | refine Own.runo_guard1 rfl rfl (fun h1 => ?_) (fun h1 => ?_) | refine Own.runo_guard0 rfl rfl (fun h1 => ?_) (fun h1 => ?_) | refine Own.runo_guard rfl rfl (fun h1 => ?_) (fun h1 => ?_) | refine Own.runo_nil ?_ | refine sd ?_ | refine sdl ?_ | refine sdm (n := 1) ?_ | refine sdm ?_ | refine sdb ?_ | refine Jk ?_ | refine Jl ?_ | refine Jm ?_ | refine Jn ?_ ?_ | refine Jo ?_ ?_ | refine Jp ?_ ?_ | refine rund_nil ?_ | refine Jz ?_ | refine Jw ?_ | refine Jx (id := 7) [0,1,0,4,0,28,63] 7 ?_ | refine aw_region_oC (id := 9) [0, 1, 0, 4, 15, 31] 4 [[], [], [], [0], [], []] (by (repeat constructor)) (by kernel_rfl) (by kernel_rfl) (by kernel_rfl) (by rfl) (by rfl) ?_ | refine aw_block ?_ | refine Jq ?_ | refine Jr ?_ | refine Js ?_ | refine Jt ?_ | refine Ju ?_ ?_ | refine Jv ?_ ?_ | refine Jy ?_ | refine aw_exit ?_ | refine aw_ret ?_ | refine pp_ret ?_ | refine pp_normal ?_
    all_goals first
      | rfl
      | (exfalso; omega)
      | (simp [retOf]; done)
      | (exfalso; simp_all; done)
      | (exfalso; simp only [Bool.not_eq_true', Bool.not_eq_false', decide_eq_true_eq, decide_eq_false_iff_not, Bool.not_false, Bool.not_true] at *; omega)
  rw [if_neg (fun q => q ⟨rfl, hw0, hw2⟩)] at h
  have HD := ac_AnswerCode sec anm acd ano ant (by omega) (by omega) (by omega) (by omega) (by omega) (by omega)
  have e1 : cdS sec (tx2 ansW anm ano ant) = nsS sec anm ano ant := rfl
  try rw [e1] at HD
  obtain ⟨C, hC⟩ : ∃ C, nsS sec anm ano ant = C := ⟨_, rfl⟩
  rw [hC] at HD h
  clear hC e1
  have hw : decide (anm = nm) = true := decide_eq_true hw0
  by_cases hw3 : acd = C
  · have hv : decide (acd = C) = true := decide_eq_true hw3
    rw [if_neg (fun q => q hw3)] at h
    subst h
    rw [if_pos rfl]
    refine acalls_law Tryz.func17 rfl rfl rfl ?_
    repeat' first | intro h1 | intro h1 | refine st (h := ok_not_dec2 rfl) ?_ | refine sd (h := ok_not_dec2 rfl) ?_ | refine st (h := ok_str_eqlD rfl rfl hw) ?_ | refine st (h := ok_str_neqD rfl rfl hw) ?_ | refine sd (h := ok_str_eqlD rfl rfl hw) ?_ | refine sd (h := ok_str_neqD rfl rfl hw) ?_ | refine st (h := ok_str_eqlD rfl rfl hv) ?_ | refine st (h := ok_str_neqD rfl rfl hv) ?_ | refine sd (h := ok_str_eqlD rfl rfl hv) ?_ | refine sd (h := ok_str_neqD rfl rfl hv) ?_ | refine st ?_ | refine st_call (HC) ?_ | refine st_call (HF) ?_ | refine sd_call (HC) ?_ | refine sd_call (HF) ?_ | refine st_call (HD) ?_ | refine sd_call (HD) ?_ | refine stm ?_ | refine Ja ?_ | refine Jb ?_ | refine Jc ?_ | refine Jd ?_ | refine Je ?_ | refine Jf ?_ | refine Jg ?_ | refine Jh ?_ ?_ | refine Ji ?_ ?_ | refine Jj ?_ ?_ | refine run_nil ?_ | refine Own.so ?_ | refine Own.sol ?_ | refine Own.som (n := 1) ?_ | refine Own.som ?_ | refine Own.sow ?_ | refine Own.sob ?_ | refine Own.runo_want rfl rfl ?_ | refine Own.runo_unwant rfl rfl ?_ | refine Own.runo_undef rfl rfl ?_ | refine Own.runo_guard1 rfl rfl (fun h1 => ?_) (fun h1 => ?_) | refine Own.runo_guard0 rfl rfl (fun h1 => ?_) (fun h1 => ?_) | refine Own.runo_guard rfl rfl (fun h1 => ?_) (fun h1 => ?_) | refine Own.runo_nil ?_ | refine sd ?_ | refine sdl ?_ | refine sdm (n := 1) ?_ | refine sdm ?_ | refine sdb ?_ | refine Jk ?_ | refine Jl ?_ | refine Jm ?_ | refine Jn ?_ ?_ | refine Jo ?_ ?_ | refine Jp ?_ ?_ | refine rund_nil ?_ | refine Jz ?_ | refine Jw ?_ | refine Jx (id := 7) [0,1,0,4,0,28,63] 7 ?_ | refine aw_region_oC (id := 9) [0, 1, 0, 4, 15, 31] 4 [[], [], [], [0], [], []] (by (repeat constructor)) (by kernel_rfl) (by kernel_rfl) (by kernel_rfl) (by rfl) (by rfl) ?_ | refine aw_block ?_ | refine Jq ?_ | refine Jr ?_ | refine Js ?_ | refine Jt ?_ | refine Ju ?_ ?_ | refine Jv ?_ ?_ | refine Jy ?_ | refine aw_exit ?_ | refine aw_ret ?_ | refine pp_ret ?_ | refine pp_normal ?_
    all_goals first
      | rfl
      | (exfalso; omega)
      | (simp [retOf]; done)
      | (exfalso; simp_all; done)
      | (exfalso; simp only [Bool.not_eq_true', Bool.not_eq_false', decide_eq_true_eq, decide_eq_false_iff_not, Bool.not_false, Bool.not_true] at *; omega)
  · have hv : decide (acd = C) = false := decide_eq_false hw3
    rw [if_pos hw3] at h
    subst h
    rw [if_neg (by decide)]
    refine acalls_law Tryz.func17 rfl rfl rfl ?_
    repeat' first | intro h1 | intro h1 | refine st (h := ok_not_dec2 rfl) ?_ | refine sd (h := ok_not_dec2 rfl) ?_ | refine st (h := ok_str_eqlD rfl rfl hw) ?_ | refine st (h := ok_str_neqD rfl rfl hw) ?_ | refine sd (h := ok_str_eqlD rfl rfl hw) ?_ | refine sd (h := ok_str_neqD rfl rfl hw) ?_ | refine st (h := ok_str_eqlD rfl rfl hv) ?_ | refine st (h := ok_str_neqD rfl rfl hv) ?_ | refine sd (h := ok_str_eqlD rfl rfl hv) ?_ | refine sd (h := ok_str_neqD rfl rfl hv) ?_ | refine st ?_ | refine st_call (HC) ?_ | refine st_call (HF) ?_ | refine sd_call (HC) ?_ | refine sd_call (HF) ?_ | refine st_call (HD) ?_ | refine sd_call (HD) ?_ | refine stm ?_ | refine Ja ?_ | refine Jb ?_ | refine Jc ?_ | refine Jd ?_ | refine Je ?_ | refine Jf ?_ | refine Jg ?_ | refine Jh ?_ ?_ | refine Ji ?_ ?_ | refine Jj ?_ ?_ | refine run_nil ?_ | refine Own.so ?_ | refine Own.sol ?_ | refine Own.som (n := 1) ?_ | refine Own.som ?_ | refine Own.sow ?_ | refine Own.sob ?_ | refine Own.runo_want rfl rfl ?_ | refine Own.runo_unwant rfl rfl ?_ | refine Own.runo_undef rfl rfl ?_ | refine Own.runo_guard1 rfl rfl (fun h1 => ?_) (fun h1 => ?_) | refine Own.runo_guard0 rfl rfl (fun h1 => ?_) (fun h1 => ?_) | refine Own.runo_guard rfl rfl (fun h1 => ?_) (fun h1 => ?_) | refine Own.runo_nil ?_ | refine sd ?_ | refine sdl ?_ | refine sdm (n := 1) ?_ | refine sdm ?_ | refine sdb ?_ | refine Jk ?_ | refine Jl ?_ | refine Jm ?_ | refine Jn ?_ ?_ | refine Jo ?_ ?_ | refine Jp ?_ ?_ | refine rund_nil ?_ | refine Jz ?_ | refine Jw ?_ | refine Jx (id := 7) [0,1,0,4,0,28,63] 7 ?_ | refine aw_region_oC (id := 9) [0, 1, 0, 4, 15, 31] 4 [[], [], [], [0], [], []] (by (repeat constructor)) (by kernel_rfl) (by kernel_rfl) (by kernel_rfl) (by rfl) (by rfl) ?_ | refine aw_block ?_ | refine Jq ?_ | refine Jr ?_ | refine Js ?_ | refine Jt ?_ | refine Ju ?_ ?_ | refine Jv ?_ ?_ | refine Jy ?_ | refine aw_exit ?_ | refine aw_ret ?_ | refine pp_ret ?_ | refine pp_normal ?_
    all_goals first
      | rfl
      | (exfalso; omega)
      | (simp [retOf]; done)
      | (exfalso; simp_all; done)
      | (exfalso; simp only [Bool.not_eq_true', Bool.not_eq_false', decide_eq_true_eq, decide_eq_false_iff_not, Bool.not_false, Bool.not_true] at *; omega)
/-- Request, both. -/
theorem pr_req (nm sec : ByteArray) (sj pa ep nd no tr si : Int) (slot : Int) : ∃ (n2 s2 : ByteArray) (a2 b2 c2 d2 e2 f2 g2 : Int) (an : ByteArray) (ano : Int) (ac : ByteArray) (e : Int), ACalls Tryz.prog 14 [.agg #[.string nm, .string sec, .int .i64 sj, .int .i64 pa, .int .i64 ep, .int .i64 nd, .int .i64 no, .int .i64 tr, .int .i64 si], .int .i64 slot] [] (.tuple #[.agg #[.string n2, .string s2, .int .i64 a2, .int .i64 b2, .int .i64 c2, .int .i64 d2, .int .i64 e2, .int .i64 f2, .int .i64 g2], .agg #[.string an, .int .i64 ano, .string ac], .int .i64 e]) [] ∧ ACalls Tryz.prog 15 [.agg #[.string nm, .string sec, .int .i64 sj, .int .i64 pa, .int .i64 ep, .int .i64 nd, .int .i64 no, .int .i64 tr, .int .i64 si], .int .i64 slot] [] (.tuple #[.agg #[.string n2, .string s2, .int .i64 a2, .int .i64 b2, .int .i64 c2, .int .i64 d2, .int .i64 e2, .int .i64 f2, .int .i64 g2], .agg #[.string an, .int .i64 ano, .string ac], .int .i64 e]) [] := by
  obtain ⟨e, he⟩ : ∃ e, (if chJ nm sec sj pa ep nd no tr si = false then 1 else if ¬ (0 ≤ slot ∧ slot ≤ 109951162) then 2 else if sj ≠ 1 then 12 else if no = 2147483647 then 21 else 0 : Int) = e := ⟨_, rfl⟩
  by_cases h0 : e = 0
  · subst h0
    cases hx : chJ nm sec sj pa ep nd no tr si with
    | false => rw [hx, if_pos rfl] at he; omega
    | true =>
    rw [hx, if_neg (by decide)] at he
    by_cases h1 : 0 ≤ slot ∧ slot ≤ 109951162
    case neg => rw [if_pos h1] at he; omega
    rw [if_neg (by omega)] at he
    by_cases h2 : sj = 1
    case neg => rw [if_pos h2] at he; omega
    rw [if_neg (by omega)] at he
    by_cases h3 : no = 2147483647
    · rw [if_pos h3] at he; omega
    exact ⟨_, _, _, _, _, _, _, _, _, _, _, _, 0, ac_jReq1 nm sec sj pa ep nd no tr si slot hx h1 h2 h3, ac_rjReq1 nm sec sj pa ep nd no tr si slot hx h1 h2 h3⟩
  · exact ⟨_, _, _, _, _, _, _, _, _, _, _, _, e, ac_jReq0 nm sec sj pa ep nd no tr si slot e he h0, ac_rjReq0 nm sec sj pa ep nd no tr si slot e he h0⟩
/-- Take, both. -/
theorem pr_take (nm sec : ByteArray) (sj pa ep nd no tr si : Int) (anm : ByteArray) (ano ant : Int) (acd : ByteArray) : ∃ (n2 s2 : ByteArray) (a2 b2 c2 d2 e2 f2 g2 : Int) (e : Int), ACalls Tryz.prog 16 [.agg #[.string nm, .string sec, .int .i64 sj, .int .i64 pa, .int .i64 ep, .int .i64 nd, .int .i64 no, .int .i64 tr, .int .i64 si], .agg #[.string anm, .int .i64 ano, .int .i64 ant, .string acd]] [] (.tuple #[.agg #[.string n2, .string s2, .int .i64 a2, .int .i64 b2, .int .i64 c2, .int .i64 d2, .int .i64 e2, .int .i64 f2, .int .i64 g2], .int .i64 e]) [] ∧ ACalls Tryz.prog 17 [.agg #[.string nm, .string sec, .int .i64 sj, .int .i64 pa, .int .i64 ep, .int .i64 nd, .int .i64 no, .int .i64 tr, .int .i64 si], .agg #[.string anm, .int .i64 ano, .int .i64 ant, .string acd]] [] (.tuple #[.agg #[.string n2, .string s2, .int .i64 a2, .int .i64 b2, .int .i64 c2, .int .i64 d2, .int .i64 e2, .int .i64 f2, .int .i64 g2], .int .i64 e]) [] := by
  obtain ⟨e, he⟩ : ∃ e, (if chJ nm sec sj pa ep nd no tr si = false then 1 else if sj ≠ 2 then 12 else if ¬ (anB anm ano ant acd = true ∧ anm = nm ∧ ano = no) then 11 else if acd ≠ nsS sec anm ano ant then 20 else 0 : Int) = e := ⟨_, rfl⟩
  have h1 := ac_jTake0 nm sec sj pa ep nd no tr si anm ano ant acd e he
  have h2 := ac_rjTake0 nm sec sj pa ep nd no tr si anm ano ant acd e he
  by_cases h0 : e = 0
  · rw [if_pos h0] at h1 h2
    exact ⟨_, _, _, _, _, _, _, _, _, e, h1, h2⟩
  · rw [if_neg h0] at h1 h2
    exact ⟨_, _, _, _, _, _, _, _, _, e, h1, h2⟩
set_option maxHeartbeats 16000000 in
theorem law_asks (nm sec : ByteArray) (sj pa ep nd no tr si : Int) (slot : Int) (anm : ByteArray) (ano ant : Int) (acd : ByteArray) : ACalls Tryz.prog 3 [.agg #[.string nm, .string sec, .int .i64 sj, .int .i64 pa, .int .i64 ep, .int .i64 nd, .int .i64 no, .int .i64 tr, .int .i64 si], .int .i64 slot, .agg #[.string anm, .int .i64 ano, .int .i64 ant, .string acd]] [] (.bool true) [] := by
  have HK := ac_awake
  have HW := ac_few nm sec sj pa ep nd no tr si
  by_cases h1 : nm.size ≤ 60 ∧ sec.size ≤ 60
  case neg =>
    rw [decide_eq_false h1] at HW
    refine acalls_law Tryz.func3 rfl rfl rfl ?_
    repeat' first | intro h1 | intro h1 | refine st (h := ok_not_dec2 rfl) ?_ | refine st ?_ | refine st_call (HK) ?_ | refine st_call (HW) ?_ | refine sd_call (HK) ?_ | refine sd_call (HW) ?_ | refine stm ?_ | refine Ja ?_ | refine Jb ?_ | refine Jc ?_ | refine Jd ?_ | refine Je ?_ | refine Jf ?_ | refine Jg ?_ | refine Jh ?_ ?_ | refine Ji ?_ ?_ | refine Jj ?_ ?_ | refine run_nil ?_ | refine Jz ?_ | refine Jw ?_ | refine aw_block ?_ | refine Jq ?_ | refine Jr ?_ | refine Js ?_ | refine Jt ?_ | refine Ju ?_ ?_ | refine Jv ?_ ?_ | refine Jy ?_ | refine aw_exit ?_ | refine aw_ret ?_ | refine pp_ret ?_ | refine pp_normal ?_
    all_goals first
      | rfl
      | (exfalso; omega)
      | (simp [retOf]; done)
      | (exfalso; simp_all; done)
      | (exfalso; simp only [Bool.not_eq_true', Bool.not_eq_false', decide_eq_true_eq, decide_eq_false_iff_not, Bool.not_false, Bool.not_true] at *; omega)
  rw [decide_eq_true h1] at HW
  by_cases h2 : anm.size ≤ 60
  case neg =>
    refine acalls_law Tryz.func3 rfl rfl rfl ?_
    repeat' first | intro h1 | intro h1 | refine st (h := ok_not_dec2 rfl) ?_ | refine st ?_ | refine st_call (HK) ?_ | refine st_call (HW) ?_ | refine sd_call (HK) ?_ | refine sd_call (HW) ?_ | refine stm ?_ | refine Ja ?_ | refine Jb ?_ | refine Jc ?_ | refine Jd ?_ | refine Je ?_ | refine Jf ?_ | refine Jg ?_ | refine Jh ?_ ?_ | refine Ji ?_ ?_ | refine Jj ?_ ?_ | refine run_nil ?_ | refine Jz ?_ | refine Jw ?_ | refine aw_block ?_ | refine Jq ?_ | refine Jr ?_ | refine Js ?_ | refine Jt ?_ | refine Ju ?_ ?_ | refine Jv ?_ ?_ | refine Jy ?_ | refine aw_exit ?_ | refine aw_ret ?_ | refine pp_ret ?_ | refine pp_normal ?_
    all_goals first
      | rfl
      | (exfalso; omega)
      | (simp [retOf]; done)
      | (exfalso; simp_all; done)
      | (exfalso; simp only [Bool.not_eq_true', Bool.not_eq_false', decide_eq_true_eq, decide_eq_false_iff_not, Bool.not_false, Bool.not_true] at *; omega)
  by_cases h3 : acd.size ≤ 60
  case neg =>
    refine acalls_law Tryz.func3 rfl rfl rfl ?_
    repeat' first | intro h1 | intro h1 | refine st (h := ok_not_dec2 rfl) ?_ | refine st ?_ | refine st_call (HK) ?_ | refine st_call (HW) ?_ | refine sd_call (HK) ?_ | refine sd_call (HW) ?_ | refine stm ?_ | refine Ja ?_ | refine Jb ?_ | refine Jc ?_ | refine Jd ?_ | refine Je ?_ | refine Jf ?_ | refine Jg ?_ | refine Jh ?_ ?_ | refine Ji ?_ ?_ | refine Jj ?_ ?_ | refine run_nil ?_ | refine Jz ?_ | refine Jw ?_ | refine aw_block ?_ | refine Jq ?_ | refine Jr ?_ | refine Js ?_ | refine Jt ?_ | refine Ju ?_ ?_ | refine Jv ?_ ?_ | refine Jy ?_ | refine aw_exit ?_ | refine aw_ret ?_ | refine pp_ret ?_ | refine pp_normal ?_
    all_goals first
      | rfl
      | (exfalso; omega)
      | (simp [retOf]; done)
      | (exfalso; simp_all; done)
      | (exfalso; simp only [Bool.not_eq_true', Bool.not_eq_false', decide_eq_true_eq, decide_eq_false_iff_not, Bool.not_false, Bool.not_true] at *; omega)
  obtain ⟨n2, s2, a2, b2, c2, d2, e2, f2, g2, qn, qo, qc, e, H1, H2⟩ := pr_req nm sec sj pa ep nd no tr si slot
  obtain ⟨n3, s3, a3, b3, c3, d3, e3, f3, g3, z, H3, H4⟩ := pr_take nm sec sj pa ep nd no tr si anm ano ant acd
  refine acalls_law Tryz.func3 rfl rfl rfl ?_
  repeat' first | intro h1 | intro h1 | refine st (h := ok_not_dec2 rfl) ?_ | refine st (h := ok_agg_eqlT rfl rfl (by ((repeat constructor); first | done | fail)) (by simp)) ?_ | refine sd (h := ok_agg_eqlT rfl rfl (by ((repeat constructor); first | done | fail)) (by simp)) ?_ | refine st ?_ | refine st_call (HK) ?_ | refine st_call (HW) ?_ | refine st_call (H1) ?_ | refine st_call (H2) ?_ | refine st_call (H3) ?_ | refine st_call (H4) ?_ | refine sd_call (HK) ?_ | refine sd_call (HW) ?_ | refine sd_call (H1) ?_ | refine sd_call (H2) ?_ | refine sd_call (H3) ?_ | refine sd_call (H4) ?_ | refine stm ?_ | refine Ja ?_ | refine Jb ?_ | refine Jc ?_ | refine Jd ?_ | refine Je ?_ | refine Jf ?_ | refine Jg ?_ | refine Jh ?_ ?_ | refine Ji ?_ ?_ | refine Jj ?_ ?_ | refine run_nil ?_ | refine Jz ?_ | refine Jw ?_ | refine aw_block ?_ | refine Jq ?_ | refine Jr ?_ | refine Js ?_ | refine Jt ?_ | refine Ju ?_ ?_ | refine Jv ?_ ?_ | refine Jy ?_ | refine aw_exit ?_ | refine aw_ret ?_ | refine pp_ret ?_ | refine pp_normal ?_
  all_goals first
    | rfl
    | (exfalso; omega)
    | (simp [retOf]; done)
    | (exfalso; simp_all; done)
    | (exfalso; simp only [Bool.not_eq_true', Bool.not_eq_false', decide_eq_true_eq, decide_eq_false_iff_not, Bool.not_false, Bool.not_true] at *; omega)
end Go.Proofs.YtdbcbclapipgdaaGreatDoor
