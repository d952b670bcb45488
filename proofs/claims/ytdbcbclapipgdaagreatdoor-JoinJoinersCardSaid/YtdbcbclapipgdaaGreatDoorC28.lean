/- Join: begun, waited (both); Join: Hear (reference). -/
import Derived.Test.YtdbcbclapipgdaaGreatDoorVO
import Derived.Test.YtdbcbclapipgdaaGreatDoorJ
import Derived.Test.YtdbcbclapipgdaaGreatDoorC13
import Derived.Test.YtdbcbclapipgdaaGreatDoorC20
import Derived.Test.YtdbcbclapipgdaaGreatDoorC44
set_option linter.unusedVariables false
set_option linter.unusedSimpArgs false
namespace Go.Proofs.YtdbcbclapipgdaaGreatDoor
open Go Av
set_option maxRecDepth 20000
set_option maxHeartbeats 1000000 in
theorem ac_rjStart (nm sec : ByteArray) : ACalls Tryz.prog 32 [.string nm, .string sec] [] (.tuple #[cond (nmB nm && scB sec) (.agg #[.string nm, .string sec, .int .i64 0, .int .i64 (-1), .int .i64 0, .int .i64 (-1), .int .i64 0, .int .i64 0, .int .i64 0]) (.agg #[.string ⟨#[]⟩, .string ⟨#[]⟩, .int .i64 0, .int .i64 0, .int .i64 0, .int .i64 0, .int .i64 0, .int .i64 0, .int .i64 0]), .int .i64 (cond (nmB nm) (cond (scB sec) 0 1) 4)]) [] := by
  obtain ⟨a, ha⟩ : ∃ a, nmB nm = a := ⟨_, rfl⟩
  obtain ⟨c, hc⟩ : ∃ c, scB sec = c := ⟨_, rfl⟩
  have HN := ac_rName nm a ha
  have HS := ac_rSecret sec c hc
  rw [ha, hc]
  clear ha hc
  cases a
  · refine acalls_law Tryz.func32 rfl rfl rfl ?_
    repeat' first | intro h1 | intro h1 | refine st (h := ok_not_dec2 rfl) ?_ | refine st ?_ | refine st_call (HN) ?_ | refine st_call (HS) ?_ | refine sd_call (HN) ?_ | refine sd_call (HS) ?_ | refine stm ?_ | refine Ja ?_ | refine Jb ?_ | refine Jc ?_ | refine Jd ?_ | refine Je ?_ | refine Jf ?_ | refine Jg ?_ | refine Jh ?_ ?_ | refine Ji ?_ ?_ | refine Jj ?_ ?_ | refine run_nil ?_ | refine Jz ?_ | refine Jw ?_ | refine aw_block ?_ | refine Jq ?_ | refine Jr ?_ | refine Js ?_ | refine Jt ?_ | refine Ju ?_ ?_ | refine Jv ?_ ?_ | refine Jy ?_ | refine aw_exit ?_ | refine aw_ret ?_ | refine pp_ret ?_ | refine pp_normal ?_
    all_goals first
      | rfl
      | (exfalso; omega)
      | (simp [retOf]; done)
      | (exfalso; simp_all; done)
      | (exfalso; simp only [Bool.not_eq_true', Bool.not_eq_false', decide_eq_true_eq, decide_eq_false_iff_not, Bool.not_false, Bool.not_true] at *; omega)
  cases c
  · refine acalls_law Tryz.func32 rfl rfl rfl ?_
    repeat' first | intro h1 | intro h1 | refine st (h := ok_not_dec2 rfl) ?_ | refine st ?_ | refine st_call (HN) ?_ | refine st_call (HS) ?_ | refine sd_call (HN) ?_ | refine sd_call (HS) ?_ | refine stm ?_ | refine Ja ?_ | refine Jb ?_ | refine Jc ?_ | refine Jd ?_ | refine Je ?_ | refine Jf ?_ | refine Jg ?_ | refine Jh ?_ ?_ | refine Ji ?_ ?_ | refine Jj ?_ ?_ | refine run_nil ?_ | refine Jz ?_ | refine Jw ?_ | refine aw_block ?_ | refine Jq ?_ | refine Jr ?_ | refine Js ?_ | refine Jt ?_ | refine Ju ?_ ?_ | refine Jv ?_ ?_ | refine Jy ?_ | refine aw_exit ?_ | refine aw_ret ?_ | refine pp_ret ?_ | refine pp_normal ?_
    all_goals first
      | rfl
      | (exfalso; omega)
      | (simp [retOf]; done)
      | (exfalso; simp_all; done)
      | (exfalso; simp only [Bool.not_eq_true', Bool.not_eq_false', decide_eq_true_eq, decide_eq_false_iff_not, Bool.not_false, Bool.not_true] at *; omega)
  · refine acalls_law Tryz.func32 rfl rfl rfl ?_
    repeat' first | intro h1 | intro h1 | refine st (h := ok_not_dec2 rfl) ?_ | refine st ?_ | refine st_call (HN) ?_ | refine st_call (HS) ?_ | refine sd_call (HN) ?_ | refine sd_call (HS) ?_ | refine stm ?_ | refine Ja ?_ | refine Jb ?_ | refine Jc ?_ | refine Jd ?_ | refine Je ?_ | refine Jf ?_ | refine Jg ?_ | refine Jh ?_ ?_ | refine Ji ?_ ?_ | refine Jj ?_ ?_ | refine run_nil ?_ | refine Jz ?_ | refine Jw ?_ | refine aw_block ?_ | refine Jq ?_ | refine Jr ?_ | refine Js ?_ | refine Jt ?_ | refine Ju ?_ ?_ | refine Jv ?_ ?_ | refine Jy ?_ | refine aw_exit ?_ | refine aw_ret ?_ | refine pp_ret ?_ | refine pp_normal ?_
    all_goals first
      | rfl
      | (exfalso; omega)
      | (simp [retOf]; done)
      | (exfalso; simp_all; done)
      | (exfalso; simp only [Bool.not_eq_true', Bool.not_eq_false', decide_eq_true_eq, decide_eq_false_iff_not, Bool.not_false, Bool.not_true] at *; omega)
set_option maxHeartbeats 2000000 in
theorem ac_jWait0 (nm sec : ByteArray) (sj pa ep nd no tr si : Int) (slot w : Int) (hr : -9223372036854775808 ≤ slot ∧ slot ≤ 9223372036854775807) (h : (chJ nm sec sj pa ep nd no tr si && decide (sj = 2 ∧ 0 ≤ slot ∧ w ≤ slot - si)) = false) : ACalls Tryz.prog 35 [.agg #[.string nm, .string sec, .int .i64 sj, .int .i64 pa, .int .i64 ep, .int .i64 nd, .int .i64 no, .int .i64 tr, .int .i64 si], .int .i64 slot, .int .i64 w] [] (.tuple #[.agg #[.string nm, .string sec, .int .i64 sj, .int .i64 pa, .int .i64 ep, .int .i64 nd, .int .i64 no, .int .i64 tr, .int .i64 si], .bool false]) [] := by
  obtain ⟨x, hx⟩ : ∃ x, chJ nm sec sj pa ep nd no tr si = x := ⟨_, rfl⟩
  obtain ⟨y, hy⟩ : ∃ y, decide (sj = 2) = y := ⟨_, rfl⟩
  have HC := ac_jin nm sec sj pa ep nd no tr si 2 x y hx hy
  have HA := ac_anew nm sec sj pa ep nd no tr si
  rw [hx] at h
  cases x
  · clear hx h
    cases y
    · have hy := of_decide_eq_false hy
      refine acalls_law Tryz.func35 rfl rfl rfl ?_
      repeat' first | intro h1 | intro h1 | refine st ?_ | refine st_call (HC) ?_ | refine st_call (HA) ?_ | refine sd_call (HC) ?_ | refine sd_call (HA) ?_ | refine stm ?_ | refine Ja ?_ | refine Jb ?_ | refine Jc ?_ | refine Jd ?_ | refine Je ?_ | refine Jf ?_ | refine Jg ?_ | refine Jh ?_ ?_ | refine Ji ?_ ?_ | refine Jj ?_ ?_ | refine run_nil ?_ | refine Jz ?_ | refine Jw ?_ | refine aw_block ?_ | refine Jq ?_ | refine Jr ?_ | refine Js ?_ | refine Jt ?_ | refine Ju ?_ ?_ | refine Jv ?_ ?_ | refine Jy ?_ | refine aw_exit ?_ | refine aw_ret ?_ | refine pp_ret ?_ | refine pp_normal ?_
      all_goals first
        | rfl
        | (exfalso; omega)
        | (simp [retOf]; done)
        | (exfalso; simp_all; done)
        | (exfalso; simp only [Bool.not_eq_true', Bool.not_eq_false', decide_eq_true_eq, decide_eq_false_iff_not, Bool.not_false, Bool.not_true] at *; omega)
    · have hy := of_decide_eq_true hy
      refine acalls_law Tryz.func35 rfl rfl rfl ?_
      repeat' first | intro h1 | intro h1 | refine st ?_ | refine st_call (HC) ?_ | refine st_call (HA) ?_ | refine sd_call (HC) ?_ | refine sd_call (HA) ?_ | refine stm ?_ | refine Ja ?_ | refine Jb ?_ | refine Jc ?_ | refine Jd ?_ | refine Je ?_ | refine Jf ?_ | refine Jg ?_ | refine Jh ?_ ?_ | refine Ji ?_ ?_ | refine Jj ?_ ?_ | refine run_nil ?_ | refine Jz ?_ | refine Jw ?_ | refine aw_block ?_ | refine Jq ?_ | refine Jr ?_ | refine Js ?_ | refine Jt ?_ | refine Ju ?_ ?_ | refine Jv ?_ ?_ | refine Jy ?_ | refine aw_exit ?_ | refine aw_ret ?_ | refine pp_ret ?_ | refine pp_normal ?_
      all_goals first
        | rfl
        | (exfalso; omega)
        | (simp [retOf]; done)
        | (exfalso; simp_all; done)
        | (exfalso; simp only [Bool.not_eq_true', Bool.not_eq_false', decide_eq_true_eq, decide_eq_false_iff_not, Bool.not_false, Bool.not_true] at *; omega)
  obtain ⟨_, _, ⟨_, _, hs, _⟩, _⟩ := chJ_t hx
  clear hx
  rw [Bool.true_and] at h
  have h := of_decide_eq_false h
  cases y
  · have hy := of_decide_eq_false hy
    clear h
    refine acalls_law Tryz.func35 rfl rfl rfl ?_
    repeat' first | intro h1 | intro h1 | refine st ?_ | refine st_call (HC) ?_ | refine st_call (HA) ?_ | refine sd_call (HC) ?_ | refine sd_call (HA) ?_ | refine stm ?_ | refine Ja ?_ | refine Jb ?_ | refine Jc ?_ | refine Jd ?_ | refine Je ?_ | refine Jf ?_ | refine Jg ?_ | refine Jh ?_ ?_ | refine Ji ?_ ?_ | refine Jj ?_ ?_ | refine run_nil ?_ | refine Jz ?_ | refine Jw ?_ | refine aw_block ?_ | refine Jq ?_ | refine Jr ?_ | refine Js ?_ | refine Jt ?_ | refine Ju ?_ ?_ | refine Jv ?_ ?_ | refine Jy ?_ | refine aw_exit ?_ | refine aw_ret ?_ | refine pp_ret ?_ | refine pp_normal ?_
    all_goals first
      | rfl
      | (exfalso; omega)
      | (simp [retOf]; done)
      | (exfalso; simp_all; done)
      | (exfalso; simp only [Bool.not_eq_true', Bool.not_eq_false', decide_eq_true_eq, decide_eq_false_iff_not, Bool.not_false, Bool.not_true] at *; omega)
  · have hy := of_decide_eq_true hy
    have h : slot < 0 ∨ slot - si < w := by omega
    rcases h with h | h
    · refine acalls_law Tryz.func35 rfl rfl rfl ?_
      repeat' first | intro h1 | intro h1 | refine st ?_ | refine st_call (HC) ?_ | refine st_call (HA) ?_ | refine sd_call (HC) ?_ | refine sd_call (HA) ?_ | refine stm ?_ | refine Ja ?_ | refine Jb ?_ | refine Jc ?_ | refine Jd ?_ | refine Je ?_ | refine Jf ?_ | refine Jg ?_ | refine Jh ?_ ?_ | refine Ji ?_ ?_ | refine Jj ?_ ?_ | refine run_nil ?_ | refine Jz ?_ | refine Jw ?_ | refine aw_block ?_ | refine Jq ?_ | refine Jr ?_ | refine Js ?_ | refine Jt ?_ | refine Ju ?_ ?_ | refine Jv ?_ ?_ | refine Jy ?_ | refine aw_exit ?_ | refine aw_ret ?_ | refine pp_ret ?_ | refine pp_normal ?_
      all_goals first
        | rfl
        | (exfalso; omega)
        | (simp [retOf]; done)
        | (exfalso; simp_all; done)
        | (exfalso; simp only [Bool.not_eq_true', Bool.not_eq_false', decide_eq_true_eq, decide_eq_false_iff_not, Bool.not_false, Bool.not_true] at *; omega)
    · by_cases h2 : slot < 0
      · refine acalls_law Tryz.func35 rfl rfl rfl ?_
        repeat' first | intro h1 | intro h1 | refine st ?_ | refine st_call (HC) ?_ | refine st_call (HA) ?_ | refine sd_call (HC) ?_ | refine sd_call (HA) ?_ | refine stm ?_ | refine Ja ?_ | refine Jb ?_ | refine Jc ?_ | refine Jd ?_ | refine Je ?_ | refine Jf ?_ | refine Jg ?_ | refine Jh ?_ ?_ | refine Ji ?_ ?_ | refine Jj ?_ ?_ | refine run_nil ?_ | refine Jz ?_ | refine Jw ?_ | refine aw_block ?_ | refine Jq ?_ | refine Jr ?_ | refine Js ?_ | refine Jt ?_ | refine Ju ?_ ?_ | refine Jv ?_ ?_ | refine Jy ?_ | refine aw_exit ?_ | refine aw_ret ?_ | refine pp_ret ?_ | refine pp_normal ?_
        all_goals first
          | rfl
          | (exfalso; omega)
          | (simp [retOf]; done)
          | (exfalso; simp_all; done)
          | (exfalso; simp only [Bool.not_eq_true', Bool.not_eq_false', decide_eq_true_eq, decide_eq_false_iff_not, Bool.not_false, Bool.not_true] at *; omega)
      · refine acalls_law Tryz.func35 rfl rfl rfl ?_
        repeat' first | intro h1 | intro h1 | refine st ?_ | refine st_call (HC) ?_ | refine st_call (HA) ?_ | refine sd_call (HC) ?_ | refine sd_call (HA) ?_ | refine stm ?_ | refine Ja ?_ | refine Jb ?_ | refine Jc ?_ | refine Jd ?_ | refine Je ?_ | refine Jf ?_ | refine Jg ?_ | refine Jh ?_ ?_ | refine Ji ?_ ?_ | refine Jj ?_ ?_ | refine run_nil ?_ | refine Jz ?_ | refine Jw ?_ | refine aw_block ?_ | refine Jq ?_ | refine Jr ?_ | refine Js ?_ | refine Jt ?_ | refine Ju ?_ ?_ | refine Jv ?_ ?_ | refine Jy ?_ | refine aw_exit ?_ | refine aw_ret ?_ | refine pp_ret ?_ | refine pp_normal ?_
        all_goals first
          | rfl
          | (exfalso; omega)
          | (simp [retOf]; done)
          | (exfalso; simp_all; done)
          | (exfalso; simp only [Bool.not_eq_true', Bool.not_eq_false', decide_eq_true_eq, decide_eq_false_iff_not, Bool.not_false, Bool.not_true] at *; omega)
set_option maxHeartbeats 2000000 in
theorem ac_jWait1 (nm sec : ByteArray) (sj pa ep nd no tr si : Int) (slot w : Int) (hr : -9223372036854775808 ≤ slot ∧ slot ≤ 9223372036854775807) (h : (chJ nm sec sj pa ep nd no tr si && decide (sj = 2 ∧ 0 ≤ slot ∧ w ≤ slot - si)) = true) (ht : tr = 4) : ACalls Tryz.prog 35 [.agg #[.string nm, .string sec, .int .i64 sj, .int .i64 pa, .int .i64 ep, .int .i64 nd, .int .i64 no, .int .i64 tr, .int .i64 si], .int .i64 slot, .int .i64 w] [] (.tuple #[.agg #[.string nm, .string sec, .int .i64 0, .int .i64 (-1), .int .i64 0, .int .i64 (-1), .int .i64 no, .int .i64 0, .int .i64 0], .bool true]) [] := by
  obtain ⟨hx, h⟩ := and_t h
  obtain ⟨h1, h2, h3⟩ := of_decide_eq_true h
  have hy : decide (sj = 2) = true := decide_eq_true h1
  have HC := ac_jin nm sec sj pa ep nd no tr si 2 true true hx hy
  have HA := ac_anew nm sec sj pa ep nd no tr si
  obtain ⟨_, _, ⟨_, _, hs, _⟩, _⟩ := chJ_t hx
  clear hx h hy
  refine acalls_law Tryz.func35 rfl rfl rfl ?_
  repeat' first | intro h1 | intro h1 | refine st ?_ | refine st_call (HC) ?_ | refine st_call (HA) ?_ | refine sd_call (HC) ?_ | refine sd_call (HA) ?_ | refine stm ?_ | refine Ja ?_ | refine Jb ?_ | refine Jc ?_ | refine Jd ?_ | refine Je ?_ | refine Jf ?_ | refine Jg ?_ | refine Jh ?_ ?_ | refine Ji ?_ ?_ | refine Jj ?_ ?_ | refine run_nil ?_ | refine Jz ?_ | refine Jw ?_ | refine aw_block ?_ | refine Jq ?_ | refine Jr ?_ | refine Js ?_ | refine Jt ?_ | refine Ju ?_ ?_ | refine Jv ?_ ?_ | refine Jy ?_ | refine aw_exit ?_ | refine aw_ret ?_ | refine pp_ret ?_ | refine pp_normal ?_
  all_goals first
    | rfl
    | (exfalso; omega)
    | (simp [retOf]; done)
    | (exfalso; simp_all; done)
    | (exfalso; simp only [Bool.not_eq_true', Bool.not_eq_false', decide_eq_true_eq, decide_eq_false_iff_not, Bool.not_false, Bool.not_true] at *; omega)
set_option maxHeartbeats 2000000 in
theorem ac_jWait2 (nm sec : ByteArray) (sj pa ep nd no tr si : Int) (slot w : Int) (hr : -9223372036854775808 ≤ slot ∧ slot ≤ 9223372036854775807) (h : (chJ nm sec sj pa ep nd no tr si && decide (sj = 2 ∧ 0 ≤ slot ∧ w ≤ slot - si)) = true) (ht : tr ≠ 4) : ACalls Tryz.prog 35 [.agg #[.string nm, .string sec, .int .i64 sj, .int .i64 pa, .int .i64 ep, .int .i64 nd, .int .i64 no, .int .i64 tr, .int .i64 si], .int .i64 slot, .int .i64 w] [] (.tuple #[.agg #[.string nm, .string sec, .int .i64 1, .int .i64 pa, .int .i64 ep, .int .i64 nd, .int .i64 no, .int .i64 tr, .int .i64 si], .bool true]) [] := by
  obtain ⟨hx, h⟩ := and_t h
  obtain ⟨h1, h2, h3⟩ := of_decide_eq_true h
  have hy : decide (sj = 2) = true := decide_eq_true h1
  have HC := ac_jin nm sec sj pa ep nd no tr si 2 true true hx hy
  have HA := ac_anew nm sec sj pa ep nd no tr si
  obtain ⟨_, _, ⟨_, _, hs, _, ht4⟩, _⟩ := chJ_t hx
  clear hx h hy
  refine acalls_law Tryz.func35 rfl rfl rfl ?_
  repeat' first | intro h1 | intro h1 | refine st ?_ | refine st_call (HC) ?_ | refine st_call (HA) ?_ | refine sd_call (HC) ?_ | refine sd_call (HA) ?_ | refine stm ?_ | refine Ja ?_ | refine Jb ?_ | refine Jc ?_ | refine Jd ?_ | refine Je ?_ | refine Jf ?_ | refine Jg ?_ | refine Jh ?_ ?_ | refine Ji ?_ ?_ | refine Jj ?_ ?_ | refine run_nil ?_ | refine Jz ?_ | refine Jw ?_ | refine aw_block ?_ | refine Jq ?_ | refine Jr ?_ | refine Js ?_ | refine Jt ?_ | refine Ju ?_ ?_ | refine Jv ?_ ?_ | refine Jy ?_ | refine aw_exit ?_ | refine aw_ret ?_ | refine pp_ret ?_ | refine pp_normal ?_
  all_goals first
    | rfl
    | (exfalso; omega)
    | (simp [retOf]; done)
    | (exfalso; simp_all; done)
    | (exfalso; simp only [Bool.not_eq_true', Bool.not_eq_false', decide_eq_true_eq, decide_eq_false_iff_not, Bool.not_false, Bool.not_true] at *; omega)
set_option maxHeartbeats 2000000 in
theorem ac_rjWait0 (nm sec : ByteArray) (sj pa ep nd no tr si : Int) (slot w : Int) (hr : -9223372036854775808 ≤ slot ∧ slot ≤ 9223372036854775807) (h : (chJ nm sec sj pa ep nd no tr si && decide (sj = 2 ∧ 0 ≤ slot ∧ w ≤ slot - si)) = false) : ACalls Tryz.prog 36 [.agg #[.string nm, .string sec, .int .i64 sj, .int .i64 pa, .int .i64 ep, .int .i64 nd, .int .i64 no, .int .i64 tr, .int .i64 si], .int .i64 slot, .int .i64 w] [] (.tuple #[.agg #[.string nm, .string sec, .int .i64 sj, .int .i64 pa, .int .i64 ep, .int .i64 nd, .int .i64 no, .int .i64 tr, .int .i64 si], .bool false]) [] := by
  obtain ⟨x, hx⟩ : ∃ x, chJ nm sec sj pa ep nd no tr si = x := ⟨_, rfl⟩
  obtain ⟨y, hy⟩ : ∃ y, decide (sj = 2) = y := ⟨_, rfl⟩
  have HC := ac_rjCheck nm sec sj pa ep nd no tr si x hx
  rw [hx] at h
  cases x
  · clear hx h
    cases y
    · have hy := of_decide_eq_false hy
      refine acalls_law Tryz.func36 rfl rfl rfl ?_
      repeat' first | intro h1 | intro h1 | refine st ?_ | refine st_call (HC) ?_ | refine sd_call (HC) ?_ | refine stm ?_ | refine Ja ?_ | refine Jb ?_ | refine Jc ?_ | refine Jd ?_ | refine Je ?_ | refine Jf ?_ | refine Jg ?_ | refine Jh ?_ ?_ | refine Ji ?_ ?_ | refine Jj ?_ ?_ | refine run_nil ?_ | refine Jz ?_ | refine Jw ?_ | refine aw_block ?_ | refine Jq ?_ | refine Jr ?_ | refine Js ?_ | refine Jt ?_ | refine Ju ?_ ?_ | refine Jv ?_ ?_ | refine Jy ?_ | refine aw_exit ?_ | refine aw_ret ?_ | refine pp_ret ?_ | refine pp_normal ?_
      all_goals first
        | rfl
        | (exfalso; omega)
        | (simp [retOf]; done)
        | (exfalso; simp_all; done)
        | (exfalso; simp only [Bool.not_eq_true', Bool.not_eq_false', decide_eq_true_eq, decide_eq_false_iff_not, Bool.not_false, Bool.not_true] at *; omega)
    · have hy := of_decide_eq_true hy
      refine acalls_law Tryz.func36 rfl rfl rfl ?_
      repeat' first | intro h1 | intro h1 | refine st ?_ | refine st_call (HC) ?_ | refine sd_call (HC) ?_ | refine stm ?_ | refine Ja ?_ | refine Jb ?_ | refine Jc ?_ | refine Jd ?_ | refine Je ?_ | refine Jf ?_ | refine Jg ?_ | refine Jh ?_ ?_ | refine Ji ?_ ?_ | refine Jj ?_ ?_ | refine run_nil ?_ | refine Jz ?_ | refine Jw ?_ | refine aw_block ?_ | refine Jq ?_ | refine Jr ?_ | refine Js ?_ | refine Jt ?_ | refine Ju ?_ ?_ | refine Jv ?_ ?_ | refine Jy ?_ | refine aw_exit ?_ | refine aw_ret ?_ | refine pp_ret ?_ | refine pp_normal ?_
      all_goals first
        | rfl
        | (exfalso; omega)
        | (simp [retOf]; done)
        | (exfalso; simp_all; done)
        | (exfalso; simp only [Bool.not_eq_true', Bool.not_eq_false', decide_eq_true_eq, decide_eq_false_iff_not, Bool.not_false, Bool.not_true] at *; omega)
  obtain ⟨_, _, ⟨_, _, hs, _⟩, _⟩ := chJ_t hx
  clear hx
  rw [Bool.true_and] at h
  have h := of_decide_eq_false h
  cases y
  · have hy := of_decide_eq_false hy
    clear h
    refine acalls_law Tryz.func36 rfl rfl rfl ?_
    repeat' first | intro h1 | intro h1 | refine st ?_ | refine st_call (HC) ?_ | refine sd_call (HC) ?_ | refine stm ?_ | refine Ja ?_ | refine Jb ?_ | refine Jc ?_ | refine Jd ?_ | refine Je ?_ | refine Jf ?_ | refine Jg ?_ | refine Jh ?_ ?_ | refine Ji ?_ ?_ | refine Jj ?_ ?_ | refine run_nil ?_ | refine Jz ?_ | refine Jw ?_ | refine aw_block ?_ | refine Jq ?_ | refine Jr ?_ | refine Js ?_ | refine Jt ?_ | refine Ju ?_ ?_ | refine Jv ?_ ?_ | refine Jy ?_ | refine aw_exit ?_ | refine aw_ret ?_ | refine pp_ret ?_ | refine pp_normal ?_
    all_goals first
      | rfl
      | (exfalso; omega)
      | (simp [retOf]; done)
      | (exfalso; simp_all; done)
      | (exfalso; simp only [Bool.not_eq_true', Bool.not_eq_false', decide_eq_true_eq, decide_eq_false_iff_not, Bool.not_false, Bool.not_true] at *; omega)
  · have hy := of_decide_eq_true hy
    have h : slot < 0 ∨ slot - si < w := by omega
    rcases h with h | h
    · refine acalls_law Tryz.func36 rfl rfl rfl ?_
      repeat' first | intro h1 | intro h1 | refine st ?_ | refine st_call (HC) ?_ | refine sd_call (HC) ?_ | refine stm ?_ | refine Ja ?_ | refine Jb ?_ | refine Jc ?_ | refine Jd ?_ | refine Je ?_ | refine Jf ?_ | refine Jg ?_ | refine Jh ?_ ?_ | refine Ji ?_ ?_ | refine Jj ?_ ?_ | refine run_nil ?_ | refine Jz ?_ | refine Jw ?_ | refine aw_block ?_ | refine Jq ?_ | refine Jr ?_ | refine Js ?_ | refine Jt ?_ | refine Ju ?_ ?_ | refine Jv ?_ ?_ | refine Jy ?_ | refine aw_exit ?_ | refine aw_ret ?_ | refine pp_ret ?_ | refine pp_normal ?_
      all_goals first
        | rfl
        | (exfalso; omega)
        | (simp [retOf]; done)
        | (exfalso; simp_all; done)
        | (exfalso; simp only [Bool.not_eq_true', Bool.not_eq_false', decide_eq_true_eq, decide_eq_false_iff_not, Bool.not_false, Bool.not_true] at *; omega)
    · by_cases h2 : slot < 0
      · refine acalls_law Tryz.func36 rfl rfl rfl ?_
        repeat' first | intro h1 | intro h1 | refine st ?_ | refine st_call (HC) ?_ | refine sd_call (HC) ?_ | refine stm ?_ | refine Ja ?_ | refine Jb ?_ | refine Jc ?_ | refine Jd ?_ | refine Je ?_ | refine Jf ?_ | refine Jg ?_ | refine Jh ?_ ?_ | refine Ji ?_ ?_ | refine Jj ?_ ?_ | refine run_nil ?_ | refine Jz ?_ | refine Jw ?_ | refine aw_block ?_ | refine Jq ?_ | refine Jr ?_ | refine Js ?_ | refine Jt ?_ | refine Ju ?_ ?_ | refine Jv ?_ ?_ | refine Jy ?_ | refine aw_exit ?_ | refine aw_ret ?_ | refine pp_ret ?_ | refine pp_normal ?_
        all_goals first
          | rfl
          | (exfalso; omega)
          | (simp [retOf]; done)
          | (exfalso; simp_all; done)
          | (exfalso; simp only [Bool.not_eq_true', Bool.not_eq_false', decide_eq_true_eq, decide_eq_false_iff_not, Bool.not_false, Bool.not_true] at *; omega)
      · refine acalls_law Tryz.func36 rfl rfl rfl ?_
        repeat' first | intro h1 | intro h1 | refine st ?_ | refine st_call (HC) ?_ | refine sd_call (HC) ?_ | refine stm ?_ | refine Ja ?_ | refine Jb ?_ | refine Jc ?_ | refine Jd ?_ | refine Je ?_ | refine Jf ?_ | refine Jg ?_ | refine Jh ?_ ?_ | refine Ji ?_ ?_ | refine Jj ?_ ?_ | refine run_nil ?_ | refine Jz ?_ | refine Jw ?_ | refine aw_block ?_ | refine Jq ?_ | refine Jr ?_ | refine Js ?_ | refine Jt ?_ | refine Ju ?_ ?_ | refine Jv ?_ ?_ | refine Jy ?_ | refine aw_exit ?_ | refine aw_ret ?_ | refine pp_ret ?_ | refine pp_normal ?_
        all_goals first
          | rfl
          | (exfalso; omega)
          | (simp [retOf]; done)
          | (exfalso; simp_all; done)
          | (exfalso; simp only [Bool.not_eq_true', Bool.not_eq_false', decide_eq_true_eq, decide_eq_false_iff_not, Bool.not_false, Bool.not_true] at *; omega)
set_option maxHeartbeats 2000000 in
theorem ac_rjWait1 (nm sec : ByteArray) (sj pa ep nd no tr si : Int) (slot w : Int) (hr : -9223372036854775808 ≤ slot ∧ slot ≤ 9223372036854775807) (h : (chJ nm sec sj pa ep nd no tr si && decide (sj = 2 ∧ 0 ≤ slot ∧ w ≤ slot - si)) = true) (ht : tr = 4) : ACalls Tryz.prog 36 [.agg #[.string nm, .string sec, .int .i64 sj, .int .i64 pa, .int .i64 ep, .int .i64 nd, .int .i64 no, .int .i64 tr, .int .i64 si], .int .i64 slot, .int .i64 w] [] (.tuple #[.agg #[.string nm, .string sec, .int .i64 0, .int .i64 (-1), .int .i64 0, .int .i64 (-1), .int .i64 no, .int .i64 0, .int .i64 0], .bool true]) [] := by
  obtain ⟨hx, h⟩ := and_t h
  obtain ⟨h1, h2, h3⟩ := of_decide_eq_true h
  have hy : decide (sj = 2) = true := decide_eq_true h1
  have HC := ac_rjCheck nm sec sj pa ep nd no tr si true hx
  obtain ⟨_, _, ⟨_, _, hs, _⟩, _⟩ := chJ_t hx
  clear hx h hy
  refine acalls_law Tryz.func36 rfl rfl rfl ?_
  repeat' first | intro h1 | intro h1 | refine st ?_ | refine st_call (HC) ?_ | refine sd_call (HC) ?_ | refine stm ?_ | refine Ja ?_ | refine Jb ?_ | refine Jc ?_ | refine Jd ?_ | refine Je ?_ | refine Jf ?_ | refine Jg ?_ | refine Jh ?_ ?_ | refine Ji ?_ ?_ | refine Jj ?_ ?_ | refine run_nil ?_ | refine Jz ?_ | refine Jw ?_ | refine aw_block ?_ | refine Jq ?_ | refine Jr ?_ | refine Js ?_ | refine Jt ?_ | refine Ju ?_ ?_ | refine Jv ?_ ?_ | refine Jy ?_ | refine aw_exit ?_ | refine aw_ret ?_ | refine pp_ret ?_ | refine pp_normal ?_
  all_goals first
    | rfl
    | (exfalso; omega)
    | (simp [retOf]; done)
    | (exfalso; simp_all; done)
    | (exfalso; simp only [Bool.not_eq_true', Bool.not_eq_false', decide_eq_true_eq, decide_eq_false_iff_not, Bool.not_false, Bool.not_true] at *; omega)
set_option maxHeartbeats 2000000 in
theorem ac_rjWait2 (nm sec : ByteArray) (sj pa ep nd no tr si : Int) (slot w : Int) (hr : -9223372036854775808 ≤ slot ∧ slot ≤ 9223372036854775807) (h : (chJ nm sec sj pa ep nd no tr si && decide (sj = 2 ∧ 0 ≤ slot ∧ w ≤ slot - si)) = true) (ht : tr ≠ 4) : ACalls Tryz.prog 36 [.agg #[.string nm, .string sec, .int .i64 sj, .int .i64 pa, .int .i64 ep, .int .i64 nd, .int .i64 no, .int .i64 tr, .int .i64 si], .int .i64 slot, .int .i64 w] [] (.tuple #[.agg #[.string nm, .string sec, .int .i64 1, .int .i64 pa, .int .i64 ep, .int .i64 nd, .int .i64 no, .int .i64 tr, .int .i64 si], .bool true]) [] := by
  obtain ⟨hx, h⟩ := and_t h
  obtain ⟨h1, h2, h3⟩ := of_decide_eq_true h
  have hy : decide (sj = 2) = true := decide_eq_true h1
  have HC := ac_rjCheck nm sec sj pa ep nd no tr si true hx
  obtain ⟨_, _, ⟨_, _, hs, _, ht4⟩, _⟩ := chJ_t hx
  clear hx h hy
  refine acalls_law Tryz.func36 rfl rfl rfl ?_
  repeat' first | intro h1 | intro h1 | refine st ?_ | refine st_call (HC) ?_ | refine sd_call (HC) ?_ | refine stm ?_ | refine Ja ?_ | refine Jb ?_ | refine Jc ?_ | refine Jd ?_ | refine Je ?_ | refine Jf ?_ | refine Jg ?_ | refine Jh ?_ ?_ | refine Ji ?_ ?_ | refine Jj ?_ ?_ | refine run_nil ?_ | refine Jz ?_ | refine Jw ?_ | refine aw_block ?_ | refine Jq ?_ | refine Jr ?_ | refine Js ?_ | refine Jt ?_ | refine Ju ?_ ?_ | refine Jv ?_ ?_ | refine Jy ?_ | refine aw_exit ?_ | refine aw_ret ?_ | refine pp_ret ?_ | refine pp_normal ?_
  all_goals first
    | rfl
    | (exfalso; omega)
    | (simp [retOf]; done)
    | (exfalso; simp_all; done)
    | (exfalso; simp only [Bool.not_eq_true', Bool.not_eq_false', decide_eq_true_eq, decide_eq_false_iff_not, Bool.not_false, Bool.not_true] at *; omega)
set_option maxHeartbeats 16000000 in
theorem r_no0 {Q : Exit → Slots → Mem → Prop} (nm sec : ByteArray) (sj pa ep nd no tr si : Int) (L : List Fm) (n i : Nat) (hn : L.length = n) (hnb : n ≤ 1000000) (hi : i < n) (kd sr tg li sq fl nu er sx rk eo : Int) (dt : ByteArray) (hq : L[i]? = some ⟨kd, sr, tg, li, sq, fl, nu, er, sx, rk, eo, dt⟩) (hds : dt.size ≤ 1000) (m1 : Int) (_u : Bool) (m3 : ByteArray) (m4 m5 m6 : Int) (m7 : List Int) (z : Int) (hres : readO (isC kd sr tg li sq fl nu er sx rk eo) dt = ((m1, false, m3, m4, m5, m6, m7), z)) (hnx : hrB L (i + 1) = hrB L i) (hz : z = 0) : AW Tryz.prog Tryz.f34.ntmps 1 (loopAt Tryz.f34 0) (ThenA (fun σ1 m1 => ∃ y : Hq, Fits 1 ([(1, .slice (some ⟨0, 0, none⟩) n n), (2, .pointer (some ⟨1, 0, none⟩)), (4, .pointer (some ⟨2, 0, none⟩)), (6, .int .i64 (hrB L y.i)), (7, .int .i64 y.i)]) ([some ⟨L.flatMap fmC, false, 12⟩, some ⟨[.string nm, .string sec, .int .i64 sj, .int .i64 pa, .int .i64 ep, .int .i64 nd, .int .i64 no, .int .i64 tr, .int .i64 si], true, 1⟩, some ⟨[.string ⟨#[]⟩, .string ⟨#[]⟩, .int .i64 0, .int .i64 0, .int .i64 0, .int .i64 0, .int .i64 0, .int .i64 0, .int .i64 0], true, 1⟩]) σ1 m1 ∧ y.i ≤ n ∧ n - y.i < n - i) Q) ([(1, .slice (some ⟨0, 0, none⟩) n n), (2, .pointer (some ⟨1, 0, none⟩)), (4, .pointer (some ⟨2, 0, none⟩)), (6, .int .i64 (hrB L i)), (7, .int .i64 i)]) ([some ⟨L.flatMap fmC, false, 12⟩, some ⟨[.string nm, .string sec, .int .i64 sj, .int .i64 pa, .int .i64 ep, .int .i64 nd, .int .i64 no, .int .i64 tr, .int .i64 si], true, 1⟩, some ⟨[.string ⟨#[]⟩, .string ⟨#[]⟩, .int .i64 0, .int .i64 0, .int .i64 0, .int .i64 0, .int .i64 0, .int .i64 0, .int .i64 0], true, 1⟩]) := by
  have hbd := hrB_bd L i
  obtain ⟨B, hB⟩ : ∃ B, hrB L i = B := ⟨_, rfl⟩
  rw [hB] at hbd hnx ⊢
  have HR := ac_rread kd sr tg li sq fl nu er sx rk eo dt hds _ rfl (m1, false, m3, m4, m5, m6, m7) z _ hres rfl
  dsimp only at HR
  repeat' first | intro h1 | intro h1 | refine st (h := ok_load_rowsE (f := fmC) (cs := [.int .i64 kd, .int .i64 sr, .int .i64 tg, .int .i64 li, .int .i64 sq, .int .i64 fl, .int .i64 nu, .int .i64 er, .int .i64 sx, .int .i64 rk, .int .i64 eo, .string dt]) i (fun _ => rfl) hq rfl rfl rfl rfl (by omega)) ?_ | refine sdl (h := ok_load_rowsE (f := fmC) (cs := [.int .i64 kd, .int .i64 sr, .int .i64 tg, .int .i64 li, .int .i64 sq, .int .i64 fl, .int .i64 nu, .int .i64 er, .int .i64 sx, .int .i64 rk, .int .i64 eo, .string dt]) i (fun _ => rfl) hq rfl rfl rfl rfl (by omega)) ?_ | refine st ?_ | refine stMW [] HR ?_ | refine stm ?_ | refine Ja ?_ | refine Jb ?_ | refine Jc ?_ | refine Jd ?_ | refine Je ?_ | refine Jf ?_ | refine Jg ?_ | refine Jh ?_ ?_ | refine Ji ?_ ?_ | refine Jj ?_ ?_ | refine run_nil ?_ | refine sd ?_ | refine sdl ?_ | refine sdm (n := 1) ?_ | refine sdm ?_ | refine sdb ?_ | refine Jk ?_ | refine Jl ?_ | refine Jm ?_ | refine Jn ?_ ?_ | refine Jo ?_ ?_ | refine Jp ?_ ?_ | refine rund_nil ?_ | refine Jz ?_ | refine Jw ?_ | refine Jx (id := 10) [0,1,3,7,15,31,63,127,255,511,1023,1023,4095,8191,1023,1023,50175,115711,262143,524287,1048575] 21 ?_ | refine Jx (id := 14) [0,0,3,7,15,0,0,96,224,480,0,1024,3103,7199,16383,32767] 11 ?_ | refine aw_block ?_ | refine Jq ?_ | refine Jr ?_ | refine Js ?_ | refine Jt ?_ | refine Ju ?_ ?_ | refine Jv ?_ ?_ | refine Jy ?_ | refine aw_exit ?_ | refine aw_ret ?_ | refine pp_ret ?_ | refine pp_normal ?_
  all_goals first | exact Exists.intro ⟨i + 1⟩ ⟨(by (dsimp only; rw [hnx]; exact fitsD [0, 1, 2])), hi, by dsimp only; omega⟩ | (exfalso; omega)
set_option maxHeartbeats 16000000 in
theorem r_no1 {Q : Exit → Slots → Mem → Prop} (nm sec : ByteArray) (sj pa ep nd no tr si : Int) (L : List Fm) (n i : Nat) (hn : L.length = n) (hnb : n ≤ 1000000) (hi : i < n) (kd sr tg li sq fl nu er sx rk eo : Int) (dt : ByteArray) (hq : L[i]? = some ⟨kd, sr, tg, li, sq, fl, nu, er, sx, rk, eo, dt⟩) (hds : dt.size ≤ 1000) (m1 : Int) (op : Bool) (m3 : ByteArray) (m4 m5 m6 : Int) (m7 : List Int) (z : Int) (hres : readO (isC kd sr tg li sq fl nu er sx rk eo) dt = ((m1, op, m3, m4, m5, m6, m7), z)) (hnx : hrB L (i + 1) = hrB L i) (hz : z ≠ 0) : AW Tryz.prog Tryz.f34.ntmps 1 (loopAt Tryz.f34 0) (ThenA (fun σ1 m1 => ∃ y : Hq, Fits 1 ([(1, .slice (some ⟨0, 0, none⟩) n n), (2, .pointer (some ⟨1, 0, none⟩)), (4, .pointer (some ⟨2, 0, none⟩)), (6, .int .i64 (hrB L y.i)), (7, .int .i64 y.i)]) ([some ⟨L.flatMap fmC, false, 12⟩, some ⟨[.string nm, .string sec, .int .i64 sj, .int .i64 pa, .int .i64 ep, .int .i64 nd, .int .i64 no, .int .i64 tr, .int .i64 si], true, 1⟩, some ⟨[.string ⟨#[]⟩, .string ⟨#[]⟩, .int .i64 0, .int .i64 0, .int .i64 0, .int .i64 0, .int .i64 0, .int .i64 0, .int .i64 0], true, 1⟩]) σ1 m1 ∧ y.i ≤ n ∧ n - y.i < n - i) Q) ([(1, .slice (some ⟨0, 0, none⟩) n n), (2, .pointer (some ⟨1, 0, none⟩)), (4, .pointer (some ⟨2, 0, none⟩)), (6, .int .i64 (hrB L i)), (7, .int .i64 i)]) ([some ⟨L.flatMap fmC, false, 12⟩, some ⟨[.string nm, .string sec, .int .i64 sj, .int .i64 pa, .int .i64 ep, .int .i64 nd, .int .i64 no, .int .i64 tr, .int .i64 si], true, 1⟩, some ⟨[.string ⟨#[]⟩, .string ⟨#[]⟩, .int .i64 0, .int .i64 0, .int .i64 0, .int .i64 0, .int .i64 0, .int .i64 0, .int .i64 0], true, 1⟩]) := by
  have hbd := hrB_bd L i
  obtain ⟨B, hB⟩ : ∃ B, hrB L i = B := ⟨_, rfl⟩
  rw [hB] at hbd hnx ⊢
  have HR := ac_rread kd sr tg li sq fl nu er sx rk eo dt hds _ rfl (m1, op, m3, m4, m5, m6, m7) z _ hres rfl
  dsimp only at HR
  repeat' first | intro h1 | intro h1 | refine st (h := ok_load_rowsE (f := fmC) (cs := [.int .i64 kd, .int .i64 sr, .int .i64 tg, .int .i64 li, .int .i64 sq, .int .i64 fl, .int .i64 nu, .int .i64 er, .int .i64 sx, .int .i64 rk, .int .i64 eo, .string dt]) i (fun _ => rfl) hq rfl rfl rfl rfl (by omega)) ?_ | refine sdl (h := ok_load_rowsE (f := fmC) (cs := [.int .i64 kd, .int .i64 sr, .int .i64 tg, .int .i64 li, .int .i64 sq, .int .i64 fl, .int .i64 nu, .int .i64 er, .int .i64 sx, .int .i64 rk, .int .i64 eo, .string dt]) i (fun _ => rfl) hq rfl rfl rfl rfl (by omega)) ?_ | refine st ?_ | refine stMW [] HR ?_ | refine stm ?_ | refine Ja ?_ | refine Jb ?_ | refine Jc ?_ | refine Jd ?_ | refine Je ?_ | refine Jf ?_ | refine Jg ?_ | refine Jh ?_ ?_ | refine Ji ?_ ?_ | refine Jj ?_ ?_ | refine run_nil ?_ | refine sd ?_ | refine sdl ?_ | refine sdm (n := 1) ?_ | refine sdm ?_ | refine sdb ?_ | refine Jk ?_ | refine Jl ?_ | refine Jm ?_ | refine Jn ?_ ?_ | refine Jo ?_ ?_ | refine Jp ?_ ?_ | refine rund_nil ?_ | refine Jz ?_ | refine Jw ?_ | refine Jx (id := 10) [0,1,3,7,15,31,63,127,255,511,1023,1023,4095,8191,1023,1023,50175,115711,262143,524287,1048575] 21 ?_ | refine Jx (id := 14) [0,0,3,7,15,0,0,96,224,480,0,1024,3103,7199,16383,32767] 11 ?_ | refine aw_block ?_ | refine Jq ?_ | refine Jr ?_ | refine Js ?_ | refine Jt ?_ | refine Ju ?_ ?_ | refine Jv ?_ ?_ | refine Jy ?_ | refine aw_exit ?_ | refine aw_ret ?_ | refine pp_ret ?_ | refine pp_normal ?_
  all_goals first | exact Exists.intro ⟨i + 1⟩ ⟨(by (dsimp only; rw [hnx]; exact fitsD [0, 1, 2])), hi, by dsimp only; omega⟩ | (exfalso; omega)
set_option maxHeartbeats 16000000 in
theorem r_fst {Q : Exit → Slots → Mem → Prop} (nm sec : ByteArray) (sj pa ep nd no tr si : Int) (L : List Fm) (n i : Nat) (hn : L.length = n) (hnb : n ≤ 1000000) (hi : i < n) (kd sr tg li sq fl nu er sx rk eo : Int) (dt : ByteArray) (hq : L[i]? = some ⟨kd, sr, tg, li, sq, fl, nu, er, sx, rk, eo, dt⟩) (hds : dt.size ≤ 1000) (m1 : Int) (_u : Bool) (m3 : ByteArray) (m4 m5 m6 : Int) (m7 : List Int) (z : Int) (hres : readO (isC kd sr tg li sq fl nu er sx rk eo) dt = ((m1, true, m3, m4, m5, m6, m7), z)) (hnx : hrB L (i + 1) = i) (hz : z = 0) (hb0 : hrB L i < 0) : AW Tryz.prog Tryz.f34.ntmps 1 (loopAt Tryz.f34 0) (ThenA (fun σ1 m1 => ∃ y : Hq, Fits 1 ([(1, .slice (some ⟨0, 0, none⟩) n n), (2, .pointer (some ⟨1, 0, none⟩)), (4, .pointer (some ⟨2, 0, none⟩)), (6, .int .i64 (hrB L y.i)), (7, .int .i64 y.i)]) ([some ⟨L.flatMap fmC, false, 12⟩, some ⟨[.string nm, .string sec, .int .i64 sj, .int .i64 pa, .int .i64 ep, .int .i64 nd, .int .i64 no, .int .i64 tr, .int .i64 si], true, 1⟩, some ⟨[.string ⟨#[]⟩, .string ⟨#[]⟩, .int .i64 0, .int .i64 0, .int .i64 0, .int .i64 0, .int .i64 0, .int .i64 0, .int .i64 0], true, 1⟩]) σ1 m1 ∧ y.i ≤ n ∧ n - y.i < n - i) Q) ([(1, .slice (some ⟨0, 0, none⟩) n n), (2, .pointer (some ⟨1, 0, none⟩)), (4, .pointer (some ⟨2, 0, none⟩)), (6, .int .i64 (hrB L i)), (7, .int .i64 i)]) ([some ⟨L.flatMap fmC, false, 12⟩, some ⟨[.string nm, .string sec, .int .i64 sj, .int .i64 pa, .int .i64 ep, .int .i64 nd, .int .i64 no, .int .i64 tr, .int .i64 si], true, 1⟩, some ⟨[.string ⟨#[]⟩, .string ⟨#[]⟩, .int .i64 0, .int .i64 0, .int .i64 0, .int .i64 0, .int .i64 0, .int .i64 0, .int .i64 0], true, 1⟩]) := by
  have hbd := hrB_bd L i
  obtain ⟨B, hB⟩ : ∃ B, hrB L i = B := ⟨_, rfl⟩
  rw [hB] at hbd hb0 ⊢
  have HR := ac_rread kd sr tg li sq fl nu er sx rk eo dt hds _ rfl (m1, true, m3, m4, m5, m6, m7) z _ hres rfl
  dsimp only at HR
  subst hz
  repeat' first | intro h1 | intro h1 | refine st (h := ok_load_rowsE (f := fmC) (cs := [.int .i64 kd, .int .i64 sr, .int .i64 tg, .int .i64 li, .int .i64 sq, .int .i64 fl, .int .i64 nu, .int .i64 er, .int .i64 sx, .int .i64 rk, .int .i64 eo, .string dt]) i (fun _ => rfl) hq rfl rfl rfl rfl (by omega)) ?_ | refine sdl (h := ok_load_rowsE (f := fmC) (cs := [.int .i64 kd, .int .i64 sr, .int .i64 tg, .int .i64 li, .int .i64 sq, .int .i64 fl, .int .i64 nu, .int .i64 er, .int .i64 sx, .int .i64 rk, .int .i64 eo, .string dt]) i (fun _ => rfl) hq rfl rfl rfl rfl (by omega)) ?_ | refine st ?_ | refine stMW [] HR ?_ | refine stm ?_ | refine Ja ?_ | refine Jb ?_ | refine Jc ?_ | refine Jd ?_ | refine Je ?_ | refine Jf ?_ | refine Jg ?_ | refine Jh ?_ ?_ | refine Ji ?_ ?_ | refine Jj ?_ ?_ | refine run_nil ?_ | refine sd ?_ | refine sdl ?_ | refine sdm (n := 1) ?_ | refine sdm ?_ | refine sdb ?_ | refine Jk ?_ | refine Jl ?_ | refine Jm ?_ | refine Jn ?_ ?_ | refine Jo ?_ ?_ | refine Jp ?_ ?_ | refine rund_nil ?_ | refine Jz ?_ | refine Jw ?_ | refine Jx (id := 10) [0,1,3,7,15,31,63,127,255,511,1023,1023,4095,8191,1023,1023,50175,115711,262143,524287,1048575] 21 ?_ | refine Jx (id := 14) [0,0,3,7,15,0,0,96,224,480,0,1024,3103,7199,16383,32767] 11 ?_ | refine aw_block ?_ | refine Jq ?_ | refine Jr ?_ | refine Js ?_ | refine Jt ?_ | refine Ju ?_ ?_ | refine Jv ?_ ?_ | refine Jy ?_ | refine aw_exit ?_ | refine aw_ret ?_ | refine pp_ret ?_ | refine pp_normal ?_
  all_goals first | exact Exists.intro ⟨i + 1⟩ ⟨(by (dsimp only; rw [hnx]; exact fitsD [0, 1, 2])), hi, by dsimp only; omega⟩ | (exfalso; omega)
set_option maxHeartbeats 16000000 in
theorem r_bt0 {Q : Exit → Slots → Mem → Prop} (nm sec : ByteArray) (sj pa ep nd no tr si : Int) (L : List Fm) (n i : Nat) (hn : L.length = n) (hnb : n ≤ 1000000) (hi : i < n) (kd sr tg li sq fl nu er sx rk eo : Int) (dt : ByteArray) (hq : L[i]? = some ⟨kd, sr, tg, li, sq, fl, nu, er, sx, rk, eo, dt⟩) (hds : dt.size ≤ 1000) (m1 : Int) (_u : Bool) (m3 : ByteArray) (m4 m5 m6 : Int) (m7 : List Int) (z : Int) (hres : readO (isC kd sr tg li sq fl nu er sx rk eo) dt = ((m1, true, m3, m4, m5, m6, m7), z)) (b : Nat) (hb : hrB L i = b) (kd' sr' tg' li' sq' fl' nu' er' sx' rk' eo' : Int) (dt' : ByteArray) (hg : L[b]? = some ⟨kd', sr', tg', li', sq', fl', nu', er', sx', rk', eo', dt'⟩) (hnx : hrB L (i + 1) = (b : Nat)) (hz : z = 0) (hv : betC (isC kd sr tg li sq fl nu er sx rk eo) (isC kd' sr' tg' li' sq' fl' nu' er' sx' rk' eo') eo rk sr eo' rk' sr' = false) : AW Tryz.prog Tryz.f34.ntmps 1 (loopAt Tryz.f34 0) (ThenA (fun σ1 m1 => ∃ y : Hq, Fits 1 ([(1, .slice (some ⟨0, 0, none⟩) n n), (2, .pointer (some ⟨1, 0, none⟩)), (4, .pointer (some ⟨2, 0, none⟩)), (6, .int .i64 (hrB L y.i)), (7, .int .i64 y.i)]) ([some ⟨L.flatMap fmC, false, 12⟩, some ⟨[.string nm, .string sec, .int .i64 sj, .int .i64 pa, .int .i64 ep, .int .i64 nd, .int .i64 no, .int .i64 tr, .int .i64 si], true, 1⟩, some ⟨[.string ⟨#[]⟩, .string ⟨#[]⟩, .int .i64 0, .int .i64 0, .int .i64 0, .int .i64 0, .int .i64 0, .int .i64 0, .int .i64 0], true, 1⟩]) σ1 m1 ∧ y.i ≤ n ∧ n - y.i < n - i) Q) ([(1, .slice (some ⟨0, 0, none⟩) n n), (2, .pointer (some ⟨1, 0, none⟩)), (4, .pointer (some ⟨2, 0, none⟩)), (6, .int .i64 (hrB L i)), (7, .int .i64 i)]) ([some ⟨L.flatMap fmC, false, 12⟩, some ⟨[.string nm, .string sec, .int .i64 sj, .int .i64 pa, .int .i64 ep, .int .i64 nd, .int .i64 no, .int .i64 tr, .int .i64 si], true, 1⟩, some ⟨[.string ⟨#[]⟩, .string ⟨#[]⟩, .int .i64 0, .int .i64 0, .int .i64 0, .int .i64 0, .int .i64 0, .int .i64 0, .int .i64 0], true, 1⟩]) := by
  have hbd := hrB_bd L i
  rw [hb] at hbd ⊢
  have HR := ac_rread kd sr tg li sq fl nu er sx rk eo dt hds _ rfl (m1, true, m3, m4, m5, m6, m7) z _ hres rfl
  dsimp only at HR
  subst hz
  have HB := ac_rbetter kd sr tg li sq fl nu er sx rk eo dt kd' sr' tg' li' sq' fl' nu' er' sx' rk' eo' dt' _ _ _ rfl rfl rfl
  rw [hv] at HB
  repeat' first | intro h1 | intro h1 | refine st (h := ok_load_rowsE (f := fmC) (cs := [.int .i64 kd, .int .i64 sr, .int .i64 tg, .int .i64 li, .int .i64 sq, .int .i64 fl, .int .i64 nu, .int .i64 er, .int .i64 sx, .int .i64 rk, .int .i64 eo, .string dt]) i (fun _ => rfl) hq rfl rfl rfl rfl (by omega)) ?_ | refine sdl (h := ok_load_rowsE (f := fmC) (cs := [.int .i64 kd, .int .i64 sr, .int .i64 tg, .int .i64 li, .int .i64 sq, .int .i64 fl, .int .i64 nu, .int .i64 er, .int .i64 sx, .int .i64 rk, .int .i64 eo, .string dt]) i (fun _ => rfl) hq rfl rfl rfl rfl (by omega)) ?_ | refine sd (h := ok_load_rowsE (f := fmC) (cs := [.int .i64 kd, .int .i64 sr, .int .i64 tg, .int .i64 li, .int .i64 sq, .int .i64 fl, .int .i64 nu, .int .i64 er, .int .i64 sx, .int .i64 rk, .int .i64 eo, .string dt]) i (fun _ => rfl) hq rfl rfl rfl rfl (by omega)) ?_ | refine sdl (h := ok_load_rowsE (f := fmC) (cs := [.int .i64 kd', .int .i64 sr', .int .i64 tg', .int .i64 li', .int .i64 sq', .int .i64 fl', .int .i64 nu', .int .i64 er', .int .i64 sx', .int .i64 rk', .int .i64 eo', .string dt']) b (fun _ => rfl) hg rfl rfl rfl rfl (by omega)) ?_ | refine sd (h := ok_load_rowsE (f := fmC) (cs := [.int .i64 kd', .int .i64 sr', .int .i64 tg', .int .i64 li', .int .i64 sq', .int .i64 fl', .int .i64 nu', .int .i64 er', .int .i64 sx', .int .i64 rk', .int .i64 eo', .string dt']) b (fun _ => rfl) hg rfl rfl rfl rfl (by omega)) ?_ | refine st ?_ | refine stMW [] HR ?_ | refine st_call (HB) ?_ | refine sd_call (HB) ?_ | refine stm ?_ | refine Ja ?_ | refine Jb ?_ | refine Jc ?_ | refine Jd ?_ | refine Je ?_ | refine Jf ?_ | refine Jg ?_ | refine Jh ?_ ?_ | refine Ji ?_ ?_ | refine Jj ?_ ?_ | refine run_nil ?_ | refine sd ?_ | refine sdl ?_ | refine sdm (n := 1) ?_ | refine sdm ?_ | refine sdb ?_ | refine Jk ?_ | refine Jl ?_ | refine Jm ?_ | refine Jn ?_ ?_ | refine Jo ?_ ?_ | refine Jp ?_ ?_ | refine rund_nil ?_ | refine Jz ?_ | refine Jw ?_ | refine Jx (id := 10) [0,1,3,7,15,31,63,127,255,511,1023,1023,4095,8191,1023,1023,50175,115711,262143,524287,1048575] 21 ?_ | refine Jx (id := 14) [0,0,3,7,15,0,0,96,224,480,0,1024,3103,7199,16383,32767] 11 ?_ | refine aw_block ?_ | refine Jq ?_ | refine Jr ?_ | refine Js ?_ | refine Jt ?_ | refine Ju ?_ ?_ | refine Jv ?_ ?_ | refine Jy ?_ | refine aw_exit ?_ | refine aw_ret ?_ | refine pp_ret ?_ | refine pp_normal ?_
  all_goals first | exact Exists.intro ⟨i + 1⟩ ⟨(by (dsimp only; rw [hnx]; exact fitsD [0, 1, 2])), hi, by dsimp only; omega⟩ | (exfalso; omega)
set_option maxHeartbeats 16000000 in
theorem r_bt1 {Q : Exit → Slots → Mem → Prop} (nm sec : ByteArray) (sj pa ep nd no tr si : Int) (L : List Fm) (n i : Nat) (hn : L.length = n) (hnb : n ≤ 1000000) (hi : i < n) (kd sr tg li sq fl nu er sx rk eo : Int) (dt : ByteArray) (hq : L[i]? = some ⟨kd, sr, tg, li, sq, fl, nu, er, sx, rk, eo, dt⟩) (hds : dt.size ≤ 1000) (m1 : Int) (_u : Bool) (m3 : ByteArray) (m4 m5 m6 : Int) (m7 : List Int) (z : Int) (hres : readO (isC kd sr tg li sq fl nu er sx rk eo) dt = ((m1, true, m3, m4, m5, m6, m7), z)) (b : Nat) (hb : hrB L i = b) (kd' sr' tg' li' sq' fl' nu' er' sx' rk' eo' : Int) (dt' : ByteArray) (hg : L[b]? = some ⟨kd', sr', tg', li', sq', fl', nu', er', sx', rk', eo', dt'⟩) (hnx : hrB L (i + 1) = (i : Nat)) (hz : z = 0) (hv : betC (isC kd sr tg li sq fl nu er sx rk eo) (isC kd' sr' tg' li' sq' fl' nu' er' sx' rk' eo') eo rk sr eo' rk' sr' = true) : AW Tryz.prog Tryz.f34.ntmps 1 (loopAt Tryz.f34 0) (ThenA (fun σ1 m1 => ∃ y : Hq, Fits 1 ([(1, .slice (some ⟨0, 0, none⟩) n n), (2, .pointer (some ⟨1, 0, none⟩)), (4, .pointer (some ⟨2, 0, none⟩)), (6, .int .i64 (hrB L y.i)), (7, .int .i64 y.i)]) ([some ⟨L.flatMap fmC, false, 12⟩, some ⟨[.string nm, .string sec, .int .i64 sj, .int .i64 pa, .int .i64 ep, .int .i64 nd, .int .i64 no, .int .i64 tr, .int .i64 si], true, 1⟩, some ⟨[.string ⟨#[]⟩, .string ⟨#[]⟩, .int .i64 0, .int .i64 0, .int .i64 0, .int .i64 0, .int .i64 0, .int .i64 0, .int .i64 0], true, 1⟩]) σ1 m1 ∧ y.i ≤ n ∧ n - y.i < n - i) Q) ([(1, .slice (some ⟨0, 0, none⟩) n n), (2, .pointer (some ⟨1, 0, none⟩)), (4, .pointer (some ⟨2, 0, none⟩)), (6, .int .i64 (hrB L i)), (7, .int .i64 i)]) ([some ⟨L.flatMap fmC, false, 12⟩, some ⟨[.string nm, .string sec, .int .i64 sj, .int .i64 pa, .int .i64 ep, .int .i64 nd, .int .i64 no, .int .i64 tr, .int .i64 si], true, 1⟩, some ⟨[.string ⟨#[]⟩, .string ⟨#[]⟩, .int .i64 0, .int .i64 0, .int .i64 0, .int .i64 0, .int .i64 0, .int .i64 0, .int .i64 0], true, 1⟩]) := by
  have hbd := hrB_bd L i
  rw [hb] at hbd ⊢
  have HR := ac_rread kd sr tg li sq fl nu er sx rk eo dt hds _ rfl (m1, true, m3, m4, m5, m6, m7) z _ hres rfl
  dsimp only at HR
  subst hz
  have HB := ac_rbetter kd sr tg li sq fl nu er sx rk eo dt kd' sr' tg' li' sq' fl' nu' er' sx' rk' eo' dt' _ _ _ rfl rfl rfl
  rw [hv] at HB
  repeat' first | intro h1 | intro h1 | refine st (h := ok_load_rowsE (f := fmC) (cs := [.int .i64 kd, .int .i64 sr, .int .i64 tg, .int .i64 li, .int .i64 sq, .int .i64 fl, .int .i64 nu, .int .i64 er, .int .i64 sx, .int .i64 rk, .int .i64 eo, .string dt]) i (fun _ => rfl) hq rfl rfl rfl rfl (by omega)) ?_ | refine sdl (h := ok_load_rowsE (f := fmC) (cs := [.int .i64 kd, .int .i64 sr, .int .i64 tg, .int .i64 li, .int .i64 sq, .int .i64 fl, .int .i64 nu, .int .i64 er, .int .i64 sx, .int .i64 rk, .int .i64 eo, .string dt]) i (fun _ => rfl) hq rfl rfl rfl rfl (by omega)) ?_ | refine sd (h := ok_load_rowsE (f := fmC) (cs := [.int .i64 kd, .int .i64 sr, .int .i64 tg, .int .i64 li, .int .i64 sq, .int .i64 fl, .int .i64 nu, .int .i64 er, .int .i64 sx, .int .i64 rk, .int .i64 eo, .string dt]) i (fun _ => rfl) hq rfl rfl rfl rfl (by omega)) ?_ | refine sdl (h := ok_load_rowsE (f := fmC) (cs := [.int .i64 kd', .int .i64 sr', .int .i64 tg', .int .i64 li', .int .i64 sq', .int .i64 fl', .int .i64 nu', .int .i64 er', .int .i64 sx', .int .i64 rk', .int .i64 eo', .string dt']) b (fun _ => rfl) hg rfl rfl rfl rfl (by omega)) ?_ | refine sd (h := ok_load_rowsE (f := fmC) (cs := [.int .i64 kd', .int .i64 sr', .int .i64 tg', .int .i64 li', .int .i64 sq', .int .i64 fl', .int .i64 nu', .int .i64 er', .int .i64 sx', .int .i64 rk', .int .i64 eo', .string dt']) b (fun _ => rfl) hg rfl rfl rfl rfl (by omega)) ?_ | refine st ?_ | refine stMW [] HR ?_ | refine st_call (HB) ?_ | refine sd_call (HB) ?_ | refine stm ?_ | refine Ja ?_ | refine Jb ?_ | refine Jc ?_ | refine Jd ?_ | refine Je ?_ | refine Jf ?_ | refine Jg ?_ | refine Jh ?_ ?_ | refine Ji ?_ ?_ | refine Jj ?_ ?_ | refine run_nil ?_ | refine sd ?_ | refine sdl ?_ | refine sdm (n := 1) ?_ | refine sdm ?_ | refine sdb ?_ | refine Jk ?_ | refine Jl ?_ | refine Jm ?_ | refine Jn ?_ ?_ | refine Jo ?_ ?_ | refine Jp ?_ ?_ | refine rund_nil ?_ | refine Jz ?_ | refine Jw ?_ | refine Jx (id := 10) [0,1,3,7,15,31,63,127,255,511,1023,1023,4095,8191,1023,1023,50175,115711,262143,524287,1048575] 21 ?_ | refine Jx (id := 14) [0,0,3,7,15,0,0,96,224,480,0,1024,3103,7199,16383,32767] 11 ?_ | refine aw_block ?_ | refine Jq ?_ | refine Jr ?_ | refine Js ?_ | refine Jt ?_ | refine Ju ?_ ?_ | refine Jv ?_ ?_ | refine Jy ?_ | refine aw_exit ?_ | refine aw_ret ?_ | refine pp_ret ?_ | refine pp_normal ?_
  all_goals first | exact Exists.intro ⟨i + 1⟩ ⟨(by (dsimp only; rw [hnx]; exact fitsD [0, 1, 2])), hi, by dsimp only; omega⟩ | (exfalso; omega)
end Go.Proofs.YtdbcbclapipgdaaGreatDoor
