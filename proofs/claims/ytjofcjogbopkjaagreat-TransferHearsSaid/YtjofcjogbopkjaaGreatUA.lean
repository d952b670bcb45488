/- Transfer: updates checked. -/
import Derived.Test.YtjofcjogbopkjaaGreatVL
import Derived.Test.YtjofcjogbopkjaaGreatTP
set_option linter.unusedVariables false
set_option linter.unusedSimpArgs false
namespace Go.Proofs.YtjofcjogbopkjaaGreat
open Go Av
set_option maxRecDepth 20000
set_option maxHeartbeats 8000000 in
theorem ac_valid (kind ver : Int) (id : ByteArray) (page pkt : Int) (bits : Nat) (data : ByteArray) (x : Bool) (hx : valU kind ver id page pkt bits data = x) : ACalls Tryz.prog 28 [.agg #[.int .i64 kind, .int .i64 ver, .string id, .int .i64 page, .int .i64 pkt, .int .u64 bits, .string data]] [] (.bool x) [] := by
  obtain ⟨b, hb⟩ : ∃ b, decide (data = ⟨#[]⟩) = b := ⟨_, rfl⟩
  have hbd : b = true ↔ data.size = 0 := by rw [← hb, decide_eq_true_eq, empty_size]
  unfold valU at hx
  by_cases h1 : kind = 1
  · subst h1
    rw [if_pos rfl] at hx
    by_cases hv : 1 ≤ ver ∧ ver ≤ 65535 ∧ id.size = 32
    · rw [decide_eq_true hv, Bool.true_and] at hx
      cases b <;> simp only [true_iff, false_iff, Bool.false_eq_true, not_false_eq_true] at hbd
      all_goals refine acalls_pure Tryz.func28 rfl rfl rfl ?_
      repeat' first | intro h1 | refine st (h := ok_str_eqlD rfl rfl hb) ?_ | refine st ?_ | refine stm ?_ | refine Ja ?_ | refine Jb ?_ | refine Jd ?_ | refine Je ?_ | refine Jf ?_ | refine Jh ?_ ?_ | refine run_nil ?_ | refine Jz ?_ | refine Jw ?_ | refine aw_block ?_ | refine Jq ?_ | refine Jt ?_ | refine Jy ?_ | refine aw_ret ?_ | refine pp_ret ?_
      all_goals first
        | rfl
        | (exfalso; omega)
        | (rw [← hx]; refine congrArg Value.bool ?_; first | exact (decide_eq_true (by omega)).symm | exact (decide_eq_false (by omega)).symm | exact decide_eq_decide.2 (by omega))
        | (rw [← hx]; show Value.bool _ = Value.bool _; congr 1; first | exact (decide_eq_true (by omega)).symm | exact (decide_eq_false (by omega)).symm | exact decide_eq_decide.2 (by omega))
        | (exfalso; simp only [Bool.not_eq_true', Bool.not_eq_false', decide_eq_true_eq, decide_eq_false_iff_not, Bool.not_false, Bool.not_true] at *; omega)
        | (simp [retOf]; done)
    · rw [decide_eq_false hv, Bool.false_and] at hx
      subst hx
      have hx := rfl (a := false)
      refine acalls_pure Tryz.func28 rfl rfl rfl ?_
      repeat' first | intro h1 | refine st ?_ | refine stm ?_ | refine Ja ?_ | refine Jb ?_ | refine Ji ?_ ?_ | refine run_nil ?_ | refine Jz ?_ | refine Jw ?_ | refine Jq ?_ | refine Js ?_ | refine aw_ret ?_ | refine pp_ret ?_
      all_goals first
        | rfl
        | (exfalso; omega)
        | (rw [← hx]; refine congrArg Value.bool ?_; first | exact (decide_eq_true (by omega)).symm | exact (decide_eq_false (by omega)).symm | exact decide_eq_decide.2 (by omega))
        | (rw [← hx]; show Value.bool _ = Value.bool _; congr 1; first | exact (decide_eq_true (by omega)).symm | exact (decide_eq_false (by omega)).symm | exact decide_eq_decide.2 (by omega))
        | (exfalso; simp only [Bool.not_eq_true', Bool.not_eq_false', decide_eq_true_eq, decide_eq_false_iff_not, Bool.not_false, Bool.not_true] at *; omega)
        | (simp [retOf]; done)
  by_cases h2 : kind = 2
  · subst h2
    rw [if_neg (by decide), if_pos rfl] at hx
    by_cases hv : 1 ≤ ver ∧ ver ≤ 65535 ∧ id.size = 32
    · rw [decide_eq_true hv, Bool.true_and] at hx
      cases b <;> simp only [true_iff, false_iff, Bool.false_eq_true, not_false_eq_true] at hbd
      all_goals refine acalls_pure Tryz.func28 rfl rfl rfl ?_
      repeat' first | intro h1 | refine st (h := ok_str_eqlD rfl rfl hb) ?_ | refine st ?_ | refine stm ?_ | refine Ja ?_ | refine Jb ?_ | refine Jc ?_ | refine Je ?_ | refine Jf ?_ | refine Jh ?_ ?_ | refine Ji ?_ ?_ | refine run_nil ?_ | refine Jz ?_ | refine Jw ?_ | refine aw_block ?_ | refine Jq ?_ | refine Jr ?_ | refine Jt ?_ | refine Jy ?_ | refine aw_ret ?_ | refine pp_ret ?_
      all_goals first
        | rfl
        | (exfalso; omega)
        | (rw [← hx]; refine congrArg Value.bool ?_; first | exact (decide_eq_true (by omega)).symm | exact (decide_eq_false (by omega)).symm | exact decide_eq_decide.2 (by omega))
        | (rw [← hx]; show Value.bool _ = Value.bool _; congr 1; first | exact (decide_eq_true (by omega)).symm | exact (decide_eq_false (by omega)).symm | exact decide_eq_decide.2 (by omega))
        | (exfalso; simp only [Bool.not_eq_true', Bool.not_eq_false', decide_eq_true_eq, decide_eq_false_iff_not, Bool.not_false, Bool.not_true] at *; omega)
        | (simp [retOf]; done)
    · rw [decide_eq_false hv, Bool.false_and] at hx
      subst hx
      have hx := rfl (a := false)
      refine acalls_pure Tryz.func28 rfl rfl rfl ?_
      repeat' first | intro h1 | refine st ?_ | refine stm ?_ | refine Ja ?_ | refine Jb ?_ | refine Ji ?_ ?_ | refine run_nil ?_ | refine Jz ?_ | refine Jw ?_ | refine Jq ?_ | refine Js ?_ | refine aw_ret ?_ | refine pp_ret ?_
      all_goals first
        | rfl
        | (exfalso; omega)
        | (rw [← hx]; refine congrArg Value.bool ?_; first | exact (decide_eq_true (by omega)).symm | exact (decide_eq_false (by omega)).symm | exact decide_eq_decide.2 (by omega))
        | (rw [← hx]; show Value.bool _ = Value.bool _; congr 1; first | exact (decide_eq_true (by omega)).symm | exact (decide_eq_false (by omega)).symm | exact decide_eq_decide.2 (by omega))
        | (exfalso; simp only [Bool.not_eq_true', Bool.not_eq_false', decide_eq_true_eq, decide_eq_false_iff_not, Bool.not_false, Bool.not_true] at *; omega)
        | (simp [retOf]; done)
  by_cases h3 : kind = 3
  · subst h3
    rw [if_neg (by decide), if_neg (by decide), if_pos rfl] at hx
    by_cases hv : 1 ≤ ver ∧ ver ≤ 65535 ∧ id.size = 32
    · rw [decide_eq_true hv, Bool.true_and] at hx
      cases b <;> simp only [true_iff, false_iff, Bool.false_eq_true, not_false_eq_true] at hbd
      all_goals refine acalls_pure Tryz.func28 rfl rfl rfl ?_
      repeat' first | intro h1 | refine st ?_ | refine stm ?_ | refine Ja ?_ | refine Jb ?_ | refine Jd ?_ | refine Je ?_ | refine Jf ?_ | refine Jh ?_ ?_ | refine run_nil ?_ | refine Jz ?_ | refine Jw ?_ | refine aw_block ?_ | refine Jq ?_ | refine Jr ?_ | refine Jt ?_ | refine Jy ?_ | refine aw_ret ?_ | refine pp_ret ?_
      all_goals first
        | rfl
        | (exfalso; omega)
        | (rw [← hx]; refine congrArg Value.bool ?_; first | exact (decide_eq_true (by omega)).symm | exact (decide_eq_false (by omega)).symm | exact decide_eq_decide.2 (by omega))
        | (rw [← hx]; show Value.bool _ = Value.bool _; congr 1; first | exact (decide_eq_true (by omega)).symm | exact (decide_eq_false (by omega)).symm | exact decide_eq_decide.2 (by omega))
        | (exfalso; simp only [Bool.not_eq_true', Bool.not_eq_false', decide_eq_true_eq, decide_eq_false_iff_not, Bool.not_false, Bool.not_true] at *; omega)
        | (simp [retOf]; done)
    · rw [decide_eq_false hv, Bool.false_and] at hx
      subst hx
      have hx := rfl (a := false)
      refine acalls_pure Tryz.func28 rfl rfl rfl ?_
      repeat' first | intro h1 | refine st ?_ | refine stm ?_ | refine Ja ?_ | refine Jb ?_ | refine Ji ?_ ?_ | refine run_nil ?_ | refine Jz ?_ | refine Jw ?_ | refine Jq ?_ | refine Js ?_ | refine aw_ret ?_ | refine pp_ret ?_
      all_goals first
        | rfl
        | (exfalso; omega)
        | (rw [← hx]; refine congrArg Value.bool ?_; first | exact (decide_eq_true (by omega)).symm | exact (decide_eq_false (by omega)).symm | exact decide_eq_decide.2 (by omega))
        | (rw [← hx]; show Value.bool _ = Value.bool _; congr 1; first | exact (decide_eq_true (by omega)).symm | exact (decide_eq_false (by omega)).symm | exact decide_eq_decide.2 (by omega))
        | (exfalso; simp only [Bool.not_eq_true', Bool.not_eq_false', decide_eq_true_eq, decide_eq_false_iff_not, Bool.not_false, Bool.not_true] at *; omega)
        | (simp [retOf]; done)
  by_cases h4 : kind = 4
  · subst h4
    rw [if_neg (by decide), if_neg (by decide), if_neg (by decide), if_pos rfl] at hx
    by_cases hv : 1 ≤ ver ∧ ver ≤ 65535 ∧ id.size = 32
    · rw [decide_eq_true hv, Bool.true_and] at hx
      cases b <;> simp only [true_iff, false_iff, Bool.false_eq_true, not_false_eq_true] at hbd
      all_goals refine acalls_pure Tryz.func28 rfl rfl rfl ?_
      repeat' first | intro h1 | refine st ?_ | refine stm ?_ | refine Ja ?_ | refine Jb ?_ | refine Jd ?_ | refine Je ?_ | refine Jf ?_ | refine Jh ?_ ?_ | refine run_nil ?_ | refine Jz ?_ | refine Jw ?_ | refine aw_block ?_ | refine Jq ?_ | refine Jr ?_ | refine Jt ?_ | refine Jy ?_ | refine aw_ret ?_ | refine pp_ret ?_
      all_goals first
        | rfl
        | (exfalso; omega)
        | (rw [← hx]; refine congrArg Value.bool ?_; first | exact (decide_eq_true (by omega)).symm | exact (decide_eq_false (by omega)).symm | exact decide_eq_decide.2 (by omega))
        | (rw [← hx]; show Value.bool _ = Value.bool _; congr 1; first | exact (decide_eq_true (by omega)).symm | exact (decide_eq_false (by omega)).symm | exact decide_eq_decide.2 (by omega))
        | (exfalso; simp only [Bool.not_eq_true', Bool.not_eq_false', decide_eq_true_eq, decide_eq_false_iff_not, Bool.not_false, Bool.not_true] at *; omega)
        | (simp [retOf]; done)
    · rw [decide_eq_false hv, Bool.false_and] at hx
      subst hx
      have hx := rfl (a := false)
      refine acalls_pure Tryz.func28 rfl rfl rfl ?_
      repeat' first | intro h1 | refine st ?_ | refine stm ?_ | refine Ja ?_ | refine Jb ?_ | refine Ji ?_ ?_ | refine run_nil ?_ | refine Jz ?_ | refine Jw ?_ | refine Jq ?_ | refine Js ?_ | refine aw_ret ?_ | refine pp_ret ?_
      all_goals first
        | rfl
        | (exfalso; omega)
        | (rw [← hx]; refine congrArg Value.bool ?_; first | exact (decide_eq_true (by omega)).symm | exact (decide_eq_false (by omega)).symm | exact decide_eq_decide.2 (by omega))
        | (rw [← hx]; show Value.bool _ = Value.bool _; congr 1; first | exact (decide_eq_true (by omega)).symm | exact (decide_eq_false (by omega)).symm | exact decide_eq_decide.2 (by omega))
        | (exfalso; simp only [Bool.not_eq_true', Bool.not_eq_false', decide_eq_true_eq, decide_eq_false_iff_not, Bool.not_false, Bool.not_true] at *; omega)
        | (simp [retOf]; done)
  rw [if_neg h1, if_neg h2, if_neg h3, if_neg h4, Bool.and_false] at hx
  subst hx
  have hx := rfl (a := false)
  refine acalls_pure Tryz.func28 rfl rfl rfl ?_
  repeat' first | intro h1 | refine st ?_ | refine stm ?_ | refine Ja ?_ | refine Jb ?_ | refine Jh ?_ ?_ | refine Ji ?_ ?_ | refine run_nil ?_ | refine Jz ?_ | refine Jw ?_ | refine aw_block ?_ | refine Jq ?_ | refine Jt ?_ | refine Ju ?_ ?_ | refine Jy ?_ | refine aw_ret ?_ | refine pp_ret ?_
  all_goals first
    | rfl
    | (exfalso; omega)
    | (rw [← hx]; refine congrArg Value.bool ?_; first | exact (decide_eq_true (by omega)).symm | exact (decide_eq_false (by omega)).symm | exact decide_eq_decide.2 (by omega))
    | (rw [← hx]; show Value.bool _ = Value.bool _; congr 1; first | exact (decide_eq_true (by omega)).symm | exact (decide_eq_false (by omega)).symm | exact decide_eq_decide.2 (by omega))
    | (exfalso; simp only [Bool.not_eq_true', Bool.not_eq_false', decide_eq_true_eq, decide_eq_false_iff_not, Bool.not_false, Bool.not_true] at *; omega)
    | (simp [retOf]; done)
theorem ac_Valid (kind ver : Int) (id : ByteArray) (page pkt : Int) (bits : Nat) (data : ByteArray) (x : Bool) (hx : valU kind ver id page pkt bits data = x) : ACalls Tryz.prog 16 [.agg #[.int .i64 kind, .int .i64 ver, .string id, .int .i64 page, .int .i64 pkt, .int .u64 bits, .string data]] [] (.int .i64 (if x then 0 else 1)) [] := by
  have H := ac_valid kind ver id page pkt bits data x hx
  cases x
  all_goals refine acalls_pure Tryz.func16 rfl rfl rfl ?_
  repeat' first | refine st ?_ | refine st_call (H) ?_ | refine stm ?_ | refine run_nil ?_ | refine Jz ?_ | refine Jw ?_ | refine Jq ?_ | refine Jr ?_ | refine Jy ?_ | refine aw_ret ?_ | refine pp_ret ?_
  all_goals first
    | rfl
    | (exfalso; omega)
    | (rw [← hx]; refine congrArg Value.bool ?_; first | exact (decide_eq_true (by omega)).symm | exact (decide_eq_false (by omega)).symm | exact decide_eq_decide.2 (by omega))
    | (rw [← hx]; show Value.bool _ = Value.bool _; congr 1; first | exact (decide_eq_true (by omega)).symm | exact (decide_eq_false (by omega)).symm | exact decide_eq_decide.2 (by omega))
    | (exfalso; simp only [Bool.not_eq_true', Bool.not_eq_false', decide_eq_true_eq, decide_eq_false_iff_not, Bool.not_false, Bool.not_true] at *; omega)
    | (simp [retOf]; done)
end Go.Proofs.YtjofcjogbopkjaaGreat
