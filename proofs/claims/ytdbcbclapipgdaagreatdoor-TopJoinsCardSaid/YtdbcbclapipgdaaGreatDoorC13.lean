/- Join: joiners checked. -/
import Derived.Test.YtdbcbclapipgdaaGreatDoorVO
import Derived.Test.YtdbcbclapipgdaaGreatDoorJ
import Derived.Test.YtdbcbclapipgdaaGreatDoorC10
import Derived.Test.YtdbcbclapipgdaaGreatDoorC12
set_option linter.unusedVariables false
set_option linter.unusedSimpArgs false
namespace Go.Proofs.YtdbcbclapipgdaaGreatDoor
open Go Av
set_option maxRecDepth 20000
set_option maxHeartbeats 4000000 in
theorem ac_jCheck (nm sec : ByteArray) (sj pa ep nd no tr si : Int) (x : Bool) (hx : chJ nm sec sj pa ep nd no tr si = x) : ACalls Tryz.prog 37 [.agg #[.string nm, .string sec, .int .i64 sj, .int .i64 pa, .int .i64 ep, .int .i64 nd, .int .i64 no, .int .i64 tr, .int .i64 si]] [] (.int .i64 (cond x 0 1)) [] := by
  obtain ⟨a, ha⟩ : ∃ a, nmB nm = a := ⟨_, rfl⟩
  obtain ⟨c, hc⟩ : ∃ c, scB sec = c := ⟨_, rfl⟩
  have HN := ac_name nm a ha
  have HS := ac_secret sec c hc
  have HW := ac_jwithin
  unfold chJ at hx
  rw [ha, hc] at hx
  clear ha hc
  cases a
  · obtain rfl : x = false := by rw [← hx]; rfl
    clear hx
    refine acalls_law Tryz.func37 rfl rfl rfl ?_
    repeat' first | refine st ?_ | refine st_call (HN) ?_ | refine stm ?_ | refine Jb ?_ | refine run_nil ?_ | refine Jz ?_ | refine Jw ?_ | refine Jq ?_ | refine aw_ret ?_ | refine pp_ret ?_
    all_goals first
      | rfl
      | (exfalso; omega)
      | (simp [retOf]; done)
      | (exfalso; simp_all; done)
      | (exfalso; simp only [Bool.not_eq_true', Bool.not_eq_false', decide_eq_true_eq, decide_eq_false_iff_not, Bool.not_false, Bool.not_true] at *; omega)
  cases c
  · obtain rfl : x = false := by rw [← hx]; rfl
    clear hx
    refine acalls_law Tryz.func37 rfl rfl rfl ?_
    repeat' first | refine st ?_ | refine st_call (HN) ?_ | refine st_call (HS) ?_ | refine stm ?_ | refine Ja ?_ | refine Jb ?_ | refine run_nil ?_ | refine Jz ?_ | refine Jw ?_ | refine Jq ?_ | refine aw_ret ?_ | refine pp_ret ?_
    all_goals first
      | rfl
      | (exfalso; omega)
      | (simp [retOf]; done)
      | (exfalso; simp_all; done)
      | (exfalso; simp only [Bool.not_eq_true', Bool.not_eq_false', decide_eq_true_eq, decide_eq_false_iff_not, Bool.not_false, Bool.not_true] at *; omega)
  simp only [Bool.true_and] at hx
  by_cases hn : (0 ≤ ep ∧ ep ≤ 65535) ∧ (0 ≤ no ∧ no ≤ 2147483647) ∧ (0 ≤ si ∧ si ≤ 109951162) ∧ 0 ≤ tr ∧ tr ≤ 4
  case neg =>
    obtain rfl : x = false := by rw [← hx, decide_eq_false hn]; rfl
    clear hx
    refine acalls_law Tryz.func37 rfl rfl rfl ?_
    repeat' first | intro h1 | intro h1 | refine st (h := ok_not_dec2 rfl) ?_ | refine st ?_ | refine st_call (HN) ?_ | refine st_call (HS) ?_ | refine st_call (HW _ _ _) ?_ | refine stm ?_ | refine Ja ?_ | refine Jb ?_ | refine Ji ?_ ?_ | refine run_nil ?_ | refine Jz ?_ | refine Jw ?_ | refine Jq ?_ | refine Js ?_ | refine aw_ret ?_ | refine pp_ret ?_
    all_goals first
      | rfl
      | (exfalso; omega)
      | (simp [retOf]; done)
      | (exfalso; simp_all; done)
      | (exfalso; simp only [Bool.not_eq_true', Bool.not_eq_false', decide_eq_true_eq, decide_eq_false_iff_not, Bool.not_false, Bool.not_true] at *; omega)
  rw [decide_eq_true hn, Bool.true_and] at hx
  obtain ⟨q, hq⟩ : ∃ q, decide (0 ≤ pa ∧ pa ≤ 31) = q := ⟨_, rfl⟩
  have HP := ac_jwithin pa 0 31
  rw [hq] at HP
  by_cases h0 : sj = 0
  · subst h0
    rw [show stB 0 pa ep nd no tr si = decide (pa = -1 ∧ nd = -1 ∧ tr = 0 ∧ ep = 0 ∧ si = 0) from rfl] at hx
    have HC := ac_chk1 nm sec 0 pa ep nd no tr si x hx
    clear hx
    cases x
    · refine acalls_law Tryz.func37 rfl rfl rfl ?_
      repeat' first | refine st (h := ok_not_dec2 rfl) ?_ | refine st (h := ok_fn_some rfl rfl) ?_ | refine stm (h := ok_makeMap (by (repeat constructor))) ?_ | refine stm (h := ok_insert rfl rfl rfl rfl rfl (by (repeat constructor))) ?_ | refine st (h := ok_lookup rfl rfl rfl rfl rfl) ?_ | refine st ?_ | refine st_call (HN) ?_ | refine st_call (HS) ?_ | refine st_call (HP) ?_ | refine st_call (HW _ _ _) ?_ | refine stRW [0] HC ?_ | refine st (h := ok_makeFunc (by ((repeat (apply ArgsR.cons; rfl)); exact ArgsR.nil)) (by ((repeat (apply ArgsR.cons; rfl)); exact ArgsR.nil))) ?_ | refine stm ?_ | refine Ja ?_ | refine Jf ?_ | refine run_nil ?_ | refine Jz ?_ | refine Jw ?_ | refine Jq ?_ | refine Jt ?_ | refine Jy ?_ | refine aw_ret ?_ | refine pp_ret ?_
      all_goals first
        | rfl
        | (exfalso; omega)
        | (simp [retOf]; done)
        | (exfalso; simp_all; done)
        | (exfalso; simp only [Bool.not_eq_true', Bool.not_eq_false', decide_eq_true_eq, decide_eq_false_iff_not, Bool.not_false, Bool.not_true] at *; omega)
    · refine acalls_law Tryz.func37 rfl rfl rfl ?_
      repeat' first | refine st (h := ok_not_dec2 rfl) ?_ | refine st (h := ok_fn_some rfl rfl) ?_ | refine stm (h := ok_makeMap (by (repeat constructor))) ?_ | refine stm (h := ok_insert rfl rfl rfl rfl rfl (by (repeat constructor))) ?_ | refine st (h := ok_lookup rfl rfl rfl rfl rfl) ?_ | refine st ?_ | refine st_call (HN) ?_ | refine st_call (HS) ?_ | refine st_call (HP) ?_ | refine st_call (HW _ _ _) ?_ | refine stRW [0] HC ?_ | refine st (h := ok_makeFunc (by ((repeat (apply ArgsR.cons; rfl)); exact ArgsR.nil)) (by ((repeat (apply ArgsR.cons; rfl)); exact ArgsR.nil))) ?_ | refine stm ?_ | refine Ja ?_ | refine Jf ?_ | refine run_nil ?_ | refine Jz ?_ | refine Jw ?_ | refine Jr ?_ | refine Jt ?_ | refine Jy ?_ | refine aw_ret ?_ | refine pp_ret ?_
      all_goals first
        | rfl
        | (exfalso; omega)
        | (simp [retOf]; done)
        | (exfalso; simp_all; done)
        | (exfalso; simp only [Bool.not_eq_true', Bool.not_eq_false', decide_eq_true_eq, decide_eq_false_iff_not, Bool.not_false, Bool.not_true] at *; omega)
  by_cases h1 : sj = 1
  · subst h1
    rw [show stB 1 pa ep nd no tr si = decide ((0 ≤ pa ∧ pa ≤ 31) ∧ nd = -1 ∧ tr < 4) from rfl] at hx
    have HC := ac_chk2 nm sec 1 pa ep nd no tr si q x (by rw [← hx, ← hq]; exact decide_eq_decide.2 (by simp only [decide_eq_true_eq]))
    clear hx
    cases x
    · refine acalls_law Tryz.func37 rfl rfl rfl ?_
      repeat' first | refine st (h := ok_not_dec2 rfl) ?_ | refine st (h := ok_fn_some rfl rfl) ?_ | refine stm (h := ok_makeMap (by (repeat constructor))) ?_ | refine stm (h := ok_insert rfl rfl rfl rfl rfl (by (repeat constructor))) ?_ | refine st (h := ok_lookup rfl rfl rfl rfl rfl) ?_ | refine st ?_ | refine st_call (HN) ?_ | refine st_call (HS) ?_ | refine st_call (HP) ?_ | refine st_call (HW _ _ _) ?_ | refine stRW [1, 0] HC ?_ | refine st (h := ok_makeFunc (by ((repeat (apply ArgsR.cons; rfl)); exact ArgsR.nil)) (by ((repeat (apply ArgsR.cons; rfl)); exact ArgsR.nil))) ?_ | refine stm ?_ | refine Ja ?_ | refine Jf ?_ | refine run_nil ?_ | refine Jz ?_ | refine Jw ?_ | refine Jq ?_ | refine Jt ?_ | refine Jy ?_ | refine aw_ret ?_ | refine pp_ret ?_
      all_goals first
        | rfl
        | (exfalso; omega)
        | (simp [retOf]; done)
        | (exfalso; simp_all; done)
        | (exfalso; simp only [Bool.not_eq_true', Bool.not_eq_false', decide_eq_true_eq, decide_eq_false_iff_not, Bool.not_false, Bool.not_true] at *; omega)
    · refine acalls_law Tryz.func37 rfl rfl rfl ?_
      repeat' first | refine st (h := ok_not_dec2 rfl) ?_ | refine st (h := ok_fn_some rfl rfl) ?_ | refine stm (h := ok_makeMap (by (repeat constructor))) ?_ | refine stm (h := ok_insert rfl rfl rfl rfl rfl (by (repeat constructor))) ?_ | refine st (h := ok_lookup rfl rfl rfl rfl rfl) ?_ | refine st ?_ | refine st_call (HN) ?_ | refine st_call (HS) ?_ | refine st_call (HP) ?_ | refine st_call (HW _ _ _) ?_ | refine stRW [1, 0] HC ?_ | refine st (h := ok_makeFunc (by ((repeat (apply ArgsR.cons; rfl)); exact ArgsR.nil)) (by ((repeat (apply ArgsR.cons; rfl)); exact ArgsR.nil))) ?_ | refine stm ?_ | refine Ja ?_ | refine Jf ?_ | refine run_nil ?_ | refine Jz ?_ | refine Jw ?_ | refine Jr ?_ | refine Jt ?_ | refine Jy ?_ | refine aw_ret ?_ | refine pp_ret ?_
      all_goals first
        | rfl
        | (exfalso; omega)
        | (simp [retOf]; done)
        | (exfalso; simp_all; done)
        | (exfalso; simp only [Bool.not_eq_true', Bool.not_eq_false', decide_eq_true_eq, decide_eq_false_iff_not, Bool.not_false, Bool.not_true] at *; omega)
  by_cases h2 : sj = 2
  · subst h2
    rw [show stB 2 pa ep nd no tr si = decide ((0 ≤ pa ∧ pa ≤ 31) ∧ nd = -1 ∧ 1 ≤ tr ∧ 1 ≤ no) from rfl] at hx
    have HC := ac_chk3 nm sec 2 pa ep nd no tr si q x (by rw [← hx, ← hq]; exact decide_eq_decide.2 (by simp only [decide_eq_true_eq]))
    clear hx
    cases x
    · refine acalls_law Tryz.func37 rfl rfl rfl ?_
      repeat' first | refine st (h := ok_not_dec2 rfl) ?_ | refine st (h := ok_fn_some rfl rfl) ?_ | refine stm (h := ok_makeMap (by (repeat constructor))) ?_ | refine stm (h := ok_insert rfl rfl rfl rfl rfl (by (repeat constructor))) ?_ | refine st (h := ok_lookup rfl rfl rfl rfl rfl) ?_ | refine st ?_ | refine st_call (HN) ?_ | refine st_call (HS) ?_ | refine st_call (HP) ?_ | refine st_call (HW _ _ _) ?_ | refine stRW [1, 0] HC ?_ | refine st (h := ok_makeFunc (by ((repeat (apply ArgsR.cons; rfl)); exact ArgsR.nil)) (by ((repeat (apply ArgsR.cons; rfl)); exact ArgsR.nil))) ?_ | refine stm ?_ | refine Ja ?_ | refine Jf ?_ | refine run_nil ?_ | refine Jz ?_ | refine Jw ?_ | refine Jq ?_ | refine Jt ?_ | refine Jy ?_ | refine aw_ret ?_ | refine pp_ret ?_
      all_goals first
        | rfl
        | (exfalso; omega)
        | (simp [retOf]; done)
        | (exfalso; simp_all; done)
        | (exfalso; simp only [Bool.not_eq_true', Bool.not_eq_false', decide_eq_true_eq, decide_eq_false_iff_not, Bool.not_false, Bool.not_true] at *; omega)
    · refine acalls_law Tryz.func37 rfl rfl rfl ?_
      repeat' first | refine st (h := ok_not_dec2 rfl) ?_ | refine st (h := ok_fn_some rfl rfl) ?_ | refine stm (h := ok_makeMap (by (repeat constructor))) ?_ | refine stm (h := ok_insert rfl rfl rfl rfl rfl (by (repeat constructor))) ?_ | refine st (h := ok_lookup rfl rfl rfl rfl rfl) ?_ | refine st ?_ | refine st_call (HN) ?_ | refine st_call (HS) ?_ | refine st_call (HP) ?_ | refine st_call (HW _ _ _) ?_ | refine stRW [1, 0] HC ?_ | refine st (h := ok_makeFunc (by ((repeat (apply ArgsR.cons; rfl)); exact ArgsR.nil)) (by ((repeat (apply ArgsR.cons; rfl)); exact ArgsR.nil))) ?_ | refine stm ?_ | refine Ja ?_ | refine Jf ?_ | refine run_nil ?_ | refine Jz ?_ | refine Jw ?_ | refine Jr ?_ | refine Jt ?_ | refine Jy ?_ | refine aw_ret ?_ | refine pp_ret ?_
      all_goals first
        | rfl
        | (exfalso; omega)
        | (simp [retOf]; done)
        | (exfalso; simp_all; done)
        | (exfalso; simp only [Bool.not_eq_true', Bool.not_eq_false', decide_eq_true_eq, decide_eq_false_iff_not, Bool.not_false, Bool.not_true] at *; omega)
  by_cases h3 : sj = 3
  · subst h3
    rw [show stB 3 pa ep nd no tr si = decide ((0 ≤ pa ∧ pa ≤ 31) ∧ (1 ≤ nd ∧ nd ≤ 31) ∧ 1 ≤ no) from rfl] at hx
    have HC := ac_chk4 nm sec 3 pa ep nd no tr si q x (by rw [← hx, ← hq]; exact decide_eq_decide.2 (by simp only [decide_eq_true_eq]))
    clear hx
    cases x
    · refine acalls_law Tryz.func37 rfl rfl rfl ?_
      repeat' first | refine st (h := ok_not_dec2 rfl) ?_ | refine st (h := ok_fn_some rfl rfl) ?_ | refine stm (h := ok_makeMap (by (repeat constructor))) ?_ | refine stm (h := ok_insert rfl rfl rfl rfl rfl (by (repeat constructor))) ?_ | refine st (h := ok_lookup rfl rfl rfl rfl rfl) ?_ | refine st ?_ | refine st_call (HN) ?_ | refine st_call (HS) ?_ | refine st_call (HP) ?_ | refine st_call (HW _ _ _) ?_ | refine stRW [1, 0] HC ?_ | refine st (h := ok_makeFunc (by ((repeat (apply ArgsR.cons; rfl)); exact ArgsR.nil)) (by ((repeat (apply ArgsR.cons; rfl)); exact ArgsR.nil))) ?_ | refine stm ?_ | refine Ja ?_ | refine Jf ?_ | refine run_nil ?_ | refine Jz ?_ | refine Jw ?_ | refine Jq ?_ | refine Jt ?_ | refine Jy ?_ | refine aw_ret ?_ | refine pp_ret ?_
      all_goals first
        | rfl
        | (exfalso; omega)
        | (simp [retOf]; done)
        | (exfalso; simp_all; done)
        | (exfalso; simp only [Bool.not_eq_true', Bool.not_eq_false', decide_eq_true_eq, decide_eq_false_iff_not, Bool.not_false, Bool.not_true] at *; omega)
    · refine acalls_law Tryz.func37 rfl rfl rfl ?_
      repeat' first | refine st (h := ok_not_dec2 rfl) ?_ | refine st (h := ok_fn_some rfl rfl) ?_ | refine stm (h := ok_makeMap (by (repeat constructor))) ?_ | refine stm (h := ok_insert rfl rfl rfl rfl rfl (by (repeat constructor))) ?_ | refine st (h := ok_lookup rfl rfl rfl rfl rfl) ?_ | refine st ?_ | refine st_call (HN) ?_ | refine st_call (HS) ?_ | refine st_call (HP) ?_ | refine st_call (HW _ _ _) ?_ | refine stRW [1, 0] HC ?_ | refine st (h := ok_makeFunc (by ((repeat (apply ArgsR.cons; rfl)); exact ArgsR.nil)) (by ((repeat (apply ArgsR.cons; rfl)); exact ArgsR.nil))) ?_ | refine stm ?_ | refine Ja ?_ | refine Jf ?_ | refine run_nil ?_ | refine Jz ?_ | refine Jw ?_ | refine Jr ?_ | refine Jt ?_ | refine Jy ?_ | refine aw_ret ?_ | refine pp_ret ?_
      all_goals first
        | rfl
        | (exfalso; omega)
        | (simp [retOf]; done)
        | (exfalso; simp_all; done)
        | (exfalso; simp only [Bool.not_eq_true', Bool.not_eq_false', decide_eq_true_eq, decide_eq_false_iff_not, Bool.not_false, Bool.not_true] at *; omega)
  obtain rfl : x = false := by
    rw [← hx]
    unfold stB
    rw [if_neg h0, if_neg h1, if_neg h2, if_neg h3]
  have hno : noKey .i64 sj [.int .i64 0, undef, .int .i64 1, undef, .int .i64 2, undef, .int .i64 3, undef] = true := by
    simp [noKey, h0, h1, h2, h3, eq_comm]
  refine acalls_law Tryz.func37 rfl rfl rfl ?_
  repeat' first | refine st (h := ok_not_dec2 rfl) ?_ | refine st (h := ok_fn_nil rfl rfl) ?_ | refine stm (h := ok_makeMap (by (repeat constructor))) ?_ | refine stm (h := ok_insert rfl rfl rfl rfl rfl (by (repeat constructor))) ?_ | refine st (h := ok_lookup_nof (by kernel_rfl) rfl rfl rfl hno) ?_ | refine st ?_ | refine st_call (HN) ?_ | refine st_call (HS) ?_ | refine st_call (HP) ?_ | refine st_call (HW _ _ _) ?_ | refine st (h := ok_makeFunc (by ((repeat (apply ArgsR.cons; rfl)); exact ArgsR.nil)) (by ((repeat (apply ArgsR.cons; rfl)); exact ArgsR.nil))) ?_ | refine stm ?_ | refine Ja ?_ | refine Jb ?_ | refine Jf ?_ | refine run_nil ?_ | refine Jz ?_ | refine Jw ?_ | refine Jq ?_ | refine Jt ?_ | refine Jy ?_ | refine aw_ret ?_ | refine pp_ret ?_
  all_goals first
    | rfl
    | (exfalso; omega)
    | (simp [retOf]; done)
    | (exfalso; simp_all; done)
    | (exfalso; simp only [Bool.not_eq_true', Bool.not_eq_false', decide_eq_true_eq, decide_eq_false_iff_not, Bool.not_false, Bool.not_true] at *; omega)
end Go.Proofs.YtdbcbclapipgdaaGreatDoor
