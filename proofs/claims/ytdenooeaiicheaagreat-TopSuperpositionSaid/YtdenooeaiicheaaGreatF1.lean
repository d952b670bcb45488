/- Frames: fields. -/
import Derived.Test.YtdenooeaiicheaaGreatVL
import Derived.Test.YtdenooeaiicheaaGreatJ
import Derived.Test.YtdenooeaiicheaaGreatH2
set_option linter.unusedVariables false
set_option linter.unusedSimpArgs false
namespace Go.Proofs.YtdenooeaiicheaaGreat
open Go Av
set_option maxRecDepth 20000
theorem ac_fin (n m : Int) (x : Bool) (hx : decide (0 ≤ n ∧ n ≤ m) = x) : ACalls Tryz.prog 83 [.int .i64 n, .int .i64 m] [] (.bool x) [] := by
  refine acalls_pure Tryz.func83 rfl rfl rfl ?_
  repeat' first | intro h1 | refine st ?_ | refine Ja ?_ | refine Jb ?_ | refine Jh ?_ ?_ | refine run_nil ?_ | refine Jz ?_ | refine Jw ?_ | refine aw_ret ?_ | refine pp_ret ?_
  all_goals first
    | rfl
    | (exfalso; omega)
    | (rw [← hx]; refine congrArg Value.bool ?_; first | exact (decide_eq_true (by omega)).symm | exact (decide_eq_false (by omega)).symm | exact decide_eq_decide.2 (by omega))
    | (rw [← hx]; show Value.bool _ = Value.bool _; congr 1; first | exact (decide_eq_true (by omega)).symm | exact (decide_eq_false (by omega)).symm | exact decide_eq_decide.2 (by omega))
    | (exfalso; simp only [Bool.not_eq_true', Bool.not_eq_false', decide_eq_true_eq, decide_eq_false_iff_not, Bool.not_false, Bool.not_true] at *; omega)
    | (simp [retOf]; done)
theorem ac_fer (n : Int) (x : Bool) (hx : decide (-32768 ≤ n ∧ n ≤ 32767) = x) : ACalls Tryz.prog 100 [.int .i64 n] [] (.bool x) [] := by
  refine acalls_pure Tryz.func100 rfl rfl rfl ?_
  repeat' first | intro h1 | refine st ?_ | refine Ja ?_ | refine Jb ?_ | refine Jh ?_ ?_ | refine run_nil ?_ | refine Jz ?_ | refine Jw ?_ | refine aw_ret ?_ | refine pp_ret ?_
  all_goals first
    | rfl
    | (exfalso; omega)
    | (rw [← hx]; refine congrArg Value.bool ?_; first | exact (decide_eq_true (by omega)).symm | exact (decide_eq_false (by omega)).symm | exact decide_eq_decide.2 (by omega))
    | (rw [← hx]; show Value.bool _ = Value.bool _; congr 1; first | exact (decide_eq_true (by omega)).symm | exact (decide_eq_false (by omega)).symm | exact decide_eq_decide.2 (by omega))
    | (exfalso; simp only [Bool.not_eq_true', Bool.not_eq_false', decide_eq_true_eq, decide_eq_false_iff_not, Bool.not_false, Bool.not_true] at *; omega)
    | (simp [retOf]; done)
set_option maxHeartbeats 4000000 in
theorem ac_ftg (kd sr tg li sq fl nu er sx rk ep : Int) (dt : ByteArray) (x : Bool) (hx : decide (((0 ≤ tg ∧ tg ≤ 31) ∧ tg ≠ sr)) = x) : ACalls Tryz.prog 99 [.agg #[.int .i64 kd, .int .i64 sr, .int .i64 tg, .int .i64 li, .int .i64 sq, .int .i64 fl, .int .i64 nu, .int .i64 er, .int .i64 sx, .int .i64 rk, .int .i64 ep, .string dt]] [] (.bool x) [] := by
  have H := ac_fin tg 31
  obtain ⟨y, hy⟩ : ∃ y, decide (0 ≤ tg ∧ tg ≤ 31) = y := ⟨_, rfl⟩
  have H := ac_fin tg 31 y hy
  cases y
  · have hy := of_decide_eq_false hy
    obtain rfl : x = false := by rw [← hx]; exact decide_eq_false (fun h => hy h.1)
    clear hx hy
    refine acalls_law Tryz.func99 rfl rfl rfl ?_
    repeat' first | refine st ?_ | refine st_call (H) ?_ | refine stm ?_ | refine Jb ?_ | refine run_nil ?_ | refine Jz ?_ | refine Jw ?_ | refine aw_ret ?_ | refine pp_ret ?_
    all_goals first
      | rfl
      | (exfalso; omega)
      | (refine congrArg Value.bool ?_; first | exact decide_eq_true (by omega) | exact decide_eq_false (by omega) | exact (decide_eq_true (by omega)).symm | exact (decide_eq_false (by omega)).symm)
      | (show Value.bool _ = Value.bool _; congr 1; first | exact decide_eq_true (by omega) | exact decide_eq_false (by omega) | exact (decide_eq_true (by omega)).symm | exact (decide_eq_false (by omega)).symm)
      | (simp [retOf]; done)
  · have hy := of_decide_eq_true hy
    refine acalls_law Tryz.func99 rfl rfl rfl ?_
    repeat' first | refine st ?_ | refine st_call (H) ?_ | refine stm ?_ | refine Ja ?_ | refine run_nil ?_ | refine Jz ?_ | refine Jw ?_ | refine aw_ret ?_ | refine pp_ret ?_
    all_goals first
      | rfl
      | (exfalso; omega)
      | (rw [← hx]; refine congrArg Value.bool ?_; first | exact (decide_eq_true (by omega)).symm | exact (decide_eq_false (by omega)).symm | exact decide_eq_decide.2 (by omega))
      | (rw [← hx]; show Value.bool _ = Value.bool _; congr 1; first | exact (decide_eq_true (by omega)).symm | exact (decide_eq_false (by omega)).symm | exact decide_eq_decide.2 (by omega))
      | (exfalso; simp only [Bool.not_eq_true', Bool.not_eq_false', decide_eq_true_eq, decide_eq_false_iff_not, Bool.not_false, Bool.not_true] at *; omega)
      | (simp [retOf]; done)
set_option maxHeartbeats 8000000 in
theorem ac_fields1 (sr tg li sq fl nu er sx rk ep : Int) (dt : ByteArray) (x : Bool) (hx : decide (((0 ≤ tg ∧ tg ≤ 31) ∧ tg ≠ sr) ∧ (0 ≤ fl ∧ fl ≤ 255) ∧ (0 ≤ nu ∧ nu ≤ 65535)) = x) : ACalls Tryz.prog 82 [.agg #[.int .i64 1, .int .i64 sr, .int .i64 tg, .int .i64 li, .int .i64 sq, .int .i64 fl, .int .i64 nu, .int .i64 er, .int .i64 sx, .int .i64 rk, .int .i64 ep, .string dt]] [] (.tuple #[.agg #[.int .i64 1, .int .i64 sr, .int .i64 tg, .int .i64 li, .int .i64 sq, .int .i64 0, .int .i64 0, .int .i64 er, .int .i64 sx, .int .i64 rk, .int .i64 ep, .string ⟨#[]⟩], .bool x]) [] := by
  obtain ⟨yT, hyT⟩ : ∃ y, decide (((0 ≤ tg ∧ tg ≤ 31) ∧ tg ≠ sr)) = y := ⟨_, rfl⟩
  have HT := ac_ftg 1 sr tg li sq fl nu er sx rk ep dt yT hyT
  obtain ⟨yA, hyA⟩ : ∃ y, decide (0 ≤ fl ∧ fl ≤ 255) = y := ⟨_, rfl⟩
  have HA := ac_fin fl 255 yA hyA
  obtain ⟨yB, hyB⟩ : ∃ y, decide (0 ≤ nu ∧ nu ≤ 65535) = y := ⟨_, rfl⟩
  have HB := ac_fin nu 65535 yB hyB
  cases yT
  · have hyT := of_decide_eq_false hyT
    obtain rfl : x = false := by rw [← hx]; exact decide_eq_false (fun h => hyT h.1)
    clear hx hyT hyA hyB
    refine acalls_law Tryz.func82 rfl rfl rfl ?_
    repeat' first | refine st ?_ | refine st_call (HT) ?_ | refine stm ?_ | refine Jb ?_ | refine run_nil ?_ | refine Jz ?_ | refine Jw ?_ | refine aw_block ?_ | refine Jq ?_ | refine aw_ret ?_ | refine pp_ret ?_
    all_goals first
      | rfl
      | (exfalso; omega)
      | (refine congrArg Value.bool ?_; first | exact decide_eq_true (by omega) | exact decide_eq_false (by omega) | exact (decide_eq_true (by omega)).symm | exact (decide_eq_false (by omega)).symm)
      | (show Value.bool _ = Value.bool _; congr 1; first | exact decide_eq_true (by omega) | exact decide_eq_false (by omega) | exact (decide_eq_true (by omega)).symm | exact (decide_eq_false (by omega)).symm)
      | (simp [retOf]; done)
  have hyT := of_decide_eq_true hyT
  cases yA
  · have hyA := of_decide_eq_false hyA
    obtain rfl : x = false := by rw [← hx]; exact decide_eq_false (fun h => hyA h.2.1)
    clear hx hyT hyA hyB
    refine acalls_law Tryz.func82 rfl rfl rfl ?_
    repeat' first | refine st ?_ | refine st_call (HT) ?_ | refine st_call (HA) ?_ | refine stm ?_ | refine Ja ?_ | refine Jb ?_ | refine run_nil ?_ | refine Jz ?_ | refine Jw ?_ | refine aw_block ?_ | refine Jq ?_ | refine aw_ret ?_ | refine pp_ret ?_
    all_goals first
      | rfl
      | (exfalso; omega)
      | (refine congrArg Value.bool ?_; first | exact decide_eq_true (by omega) | exact decide_eq_false (by omega) | exact (decide_eq_true (by omega)).symm | exact (decide_eq_false (by omega)).symm)
      | (show Value.bool _ = Value.bool _; congr 1; first | exact decide_eq_true (by omega) | exact decide_eq_false (by omega) | exact (decide_eq_true (by omega)).symm | exact (decide_eq_false (by omega)).symm)
      | (simp [retOf]; done)
  have hyA := of_decide_eq_true hyA
  cases yB
  · have hyB := of_decide_eq_false hyB
    obtain rfl : x = false := by rw [← hx]; exact decide_eq_false (fun h => hyB h.2.2)
    clear hx hyT hyA hyB
    refine acalls_law Tryz.func82 rfl rfl rfl ?_
    repeat' first | refine st ?_ | refine st_call (HT) ?_ | refine st_call (HA) ?_ | refine st_call (HB) ?_ | refine stm ?_ | refine Ja ?_ | refine run_nil ?_ | refine Jz ?_ | refine Jw ?_ | refine aw_block ?_ | refine Jq ?_ | refine aw_ret ?_ | refine pp_ret ?_
    all_goals first
      | rfl
      | (exfalso; omega)
      | (refine congrArg Value.bool ?_; first | exact decide_eq_true (by omega) | exact decide_eq_false (by omega) | exact (decide_eq_true (by omega)).symm | exact (decide_eq_false (by omega)).symm)
      | (show Value.bool _ = Value.bool _; congr 1; first | exact decide_eq_true (by omega) | exact decide_eq_false (by omega) | exact (decide_eq_true (by omega)).symm | exact (decide_eq_false (by omega)).symm)
      | (simp [retOf]; done)
  have hyB := of_decide_eq_true hyB
  obtain rfl : x = true := by rw [← hx]; exact decide_eq_true ⟨hyT, hyA, hyB⟩
  clear hx
  clear hyT hyA hyB
  refine acalls_law Tryz.func82 rfl rfl rfl ?_
  repeat' first | refine st ?_ | refine st_call (HT) ?_ | refine st_call (HA) ?_ | refine st_call (HB) ?_ | refine stm ?_ | refine Ja ?_ | refine run_nil ?_ | refine Jz ?_ | refine Jw ?_ | refine aw_block ?_ | refine Jq ?_ | refine aw_ret ?_ | refine pp_ret ?_
  all_goals first
    | rfl
    | (exfalso; omega)
    | (refine congrArg Value.bool ?_; first | exact decide_eq_true (by omega) | exact decide_eq_false (by omega) | exact (decide_eq_true (by omega)).symm | exact (decide_eq_false (by omega)).symm)
    | (show Value.bool _ = Value.bool _; congr 1; first | exact decide_eq_true (by omega) | exact decide_eq_false (by omega) | exact (decide_eq_true (by omega)).symm | exact (decide_eq_false (by omega)).symm)
    | (simp [retOf]; done)
set_option maxHeartbeats 8000000 in
theorem ac_fields2 (sr tg li sq fl nu er sx rk ep : Int) (dt : ByteArray) (x : Bool) (hx : decide (((0 ≤ tg ∧ tg ≤ 31) ∧ tg ≠ sr) ∧ (-32768 ≤ er ∧ er ≤ 32767)) = x) : ACalls Tryz.prog 82 [.agg #[.int .i64 2, .int .i64 sr, .int .i64 tg, .int .i64 li, .int .i64 sq, .int .i64 fl, .int .i64 nu, .int .i64 er, .int .i64 sx, .int .i64 rk, .int .i64 ep, .string dt]] [] (.tuple #[.agg #[.int .i64 2, .int .i64 sr, .int .i64 tg, .int .i64 li, .int .i64 sq, .int .i64 fl, .int .i64 nu, .int .i64 0, .int .i64 sx, .int .i64 rk, .int .i64 ep, .string dt], .bool x]) [] := by
  obtain ⟨yT, hyT⟩ : ∃ y, decide (((0 ≤ tg ∧ tg ≤ 31) ∧ tg ≠ sr)) = y := ⟨_, rfl⟩
  have HT := ac_ftg 2 sr tg li sq fl nu er sx rk ep dt yT hyT
  obtain ⟨yA, hyA⟩ : ∃ y, decide (-32768 ≤ er ∧ er ≤ 32767) = y := ⟨_, rfl⟩
  have HA := ac_fer er yA hyA
  cases yT
  · have hyT := of_decide_eq_false hyT
    obtain rfl : x = false := by rw [← hx]; exact decide_eq_false (fun h => hyT h.1)
    clear hx hyT hyA
    refine acalls_law Tryz.func82 rfl rfl rfl ?_
    repeat' first | refine st ?_ | refine st_call (HT) ?_ | refine stm ?_ | refine Jb ?_ | refine run_nil ?_ | refine Jz ?_ | refine Jw ?_ | refine aw_block ?_ | refine Jq ?_ | refine Jr ?_ | refine aw_ret ?_ | refine pp_ret ?_
    all_goals first
      | rfl
      | (exfalso; omega)
      | (refine congrArg Value.bool ?_; first | exact decide_eq_true (by omega) | exact decide_eq_false (by omega) | exact (decide_eq_true (by omega)).symm | exact (decide_eq_false (by omega)).symm)
      | (show Value.bool _ = Value.bool _; congr 1; first | exact decide_eq_true (by omega) | exact decide_eq_false (by omega) | exact (decide_eq_true (by omega)).symm | exact (decide_eq_false (by omega)).symm)
      | (simp [retOf]; done)
  have hyT := of_decide_eq_true hyT
  cases yA
  · have hyA := of_decide_eq_false hyA
    obtain rfl : x = false := by rw [← hx]; exact decide_eq_false (fun h => hyA h.2)
    clear hx hyT hyA
    refine acalls_law Tryz.func82 rfl rfl rfl ?_
    repeat' first | refine st ?_ | refine st_call (HT) ?_ | refine st_call (HA) ?_ | refine stm ?_ | refine Ja ?_ | refine run_nil ?_ | refine Jz ?_ | refine Jw ?_ | refine aw_block ?_ | refine Jq ?_ | refine Jr ?_ | refine aw_ret ?_ | refine pp_ret ?_
    all_goals first
      | rfl
      | (exfalso; omega)
      | (refine congrArg Value.bool ?_; first | exact decide_eq_true (by omega) | exact decide_eq_false (by omega) | exact (decide_eq_true (by omega)).symm | exact (decide_eq_false (by omega)).symm)
      | (show Value.bool _ = Value.bool _; congr 1; first | exact decide_eq_true (by omega) | exact decide_eq_false (by omega) | exact (decide_eq_true (by omega)).symm | exact (decide_eq_false (by omega)).symm)
      | (simp [retOf]; done)
  have hyA := of_decide_eq_true hyA
  obtain rfl : x = true := by rw [← hx]; exact decide_eq_true ⟨hyT, hyA⟩
  clear hx
  clear hyT hyA
  refine acalls_law Tryz.func82 rfl rfl rfl ?_
  repeat' first | refine st ?_ | refine st_call (HT) ?_ | refine st_call (HA) ?_ | refine stm ?_ | refine Ja ?_ | refine run_nil ?_ | refine Jz ?_ | refine Jw ?_ | refine aw_block ?_ | refine Jq ?_ | refine Jr ?_ | refine aw_ret ?_ | refine pp_ret ?_
  all_goals first
    | rfl
    | (exfalso; omega)
    | (refine congrArg Value.bool ?_; first | exact decide_eq_true (by omega) | exact decide_eq_false (by omega) | exact (decide_eq_true (by omega)).symm | exact (decide_eq_false (by omega)).symm)
    | (show Value.bool _ = Value.bool _; congr 1; first | exact decide_eq_true (by omega) | exact decide_eq_false (by omega) | exact (decide_eq_true (by omega)).symm | exact (decide_eq_false (by omega)).symm)
    | (simp [retOf]; done)
set_option maxHeartbeats 8000000 in
theorem ac_fields3 (sr tg li sq fl nu er sx rk ep : Int) (dt : ByteArray) (x : Bool) (hx : decide (tg = -1 ∧ (0 ≤ sx ∧ sx ≤ 109951162) ∧ (0 ≤ rk ∧ rk ≤ 65535) ∧ (0 ≤ ep ∧ ep ≤ 65535)) = x) : ACalls Tryz.prog 82 [.agg #[.int .i64 3, .int .i64 sr, .int .i64 tg, .int .i64 li, .int .i64 sq, .int .i64 fl, .int .i64 nu, .int .i64 er, .int .i64 sx, .int .i64 rk, .int .i64 ep, .string dt]] [] (.tuple #[.agg #[.int .i64 3, .int .i64 sr, .int .i64 tg, .int .i64 li, .int .i64 sq, .int .i64 fl, .int .i64 nu, .int .i64 er, .int .i64 0, .int .i64 0, .int .i64 0, .string ⟨#[]⟩], .bool x]) [] := by
  obtain ⟨yA, hyA⟩ : ∃ y, decide (0 ≤ sx ∧ sx ≤ 109951162) = y := ⟨_, rfl⟩
  have HA := ac_fin sx 109951162 yA hyA
  obtain ⟨yB, hyB⟩ : ∃ y, decide (0 ≤ rk ∧ rk ≤ 65535) = y := ⟨_, rfl⟩
  have HB := ac_fin rk 65535 yB hyB
  obtain ⟨yC, hyC⟩ : ∃ y, decide (0 ≤ ep ∧ ep ≤ 65535) = y := ⟨_, rfl⟩
  have HC := ac_fin ep 65535 yC hyC
  by_cases htg : tg = -1
  rotate_left
  · obtain rfl : x = false := by rw [← hx]; exact decide_eq_false (fun h => htg h.1)
    clear hx hyA hyB hyC
    refine acalls_law Tryz.func82 rfl rfl rfl ?_
    repeat' first | refine st ?_ | refine stm ?_ | refine Jb ?_ | refine Je ?_ | refine run_nil ?_ | refine Jz ?_ | refine Jw ?_ | refine aw_block ?_ | refine Jq ?_ | refine Jr ?_ | refine aw_ret ?_ | refine pp_ret ?_
    all_goals first
      | rfl
      | (exfalso; omega)
      | (refine congrArg Value.bool ?_; first | exact decide_eq_true (by omega) | exact decide_eq_false (by omega) | exact (decide_eq_true (by omega)).symm | exact (decide_eq_false (by omega)).symm)
      | (show Value.bool _ = Value.bool _; congr 1; first | exact decide_eq_true (by omega) | exact decide_eq_false (by omega) | exact (decide_eq_true (by omega)).symm | exact (decide_eq_false (by omega)).symm)
      | (simp [retOf]; done)
  cases yA
  · have hyA := of_decide_eq_false hyA
    obtain rfl : x = false := by rw [← hx]; exact decide_eq_false (fun h => hyA h.2.1)
    clear hx hyA hyB hyC
    refine acalls_law Tryz.func82 rfl rfl rfl ?_
    repeat' first | refine st ?_ | refine st_call (HA) ?_ | refine stm ?_ | refine Ja ?_ | refine Jb ?_ | refine Jd ?_ | refine run_nil ?_ | refine Jz ?_ | refine Jw ?_ | refine aw_block ?_ | refine Jq ?_ | refine Jr ?_ | refine aw_ret ?_ | refine pp_ret ?_
    all_goals first
      | rfl
      | (exfalso; omega)
      | (refine congrArg Value.bool ?_; first | exact decide_eq_true (by omega) | exact decide_eq_false (by omega) | exact (decide_eq_true (by omega)).symm | exact (decide_eq_false (by omega)).symm)
      | (show Value.bool _ = Value.bool _; congr 1; first | exact decide_eq_true (by omega) | exact decide_eq_false (by omega) | exact (decide_eq_true (by omega)).symm | exact (decide_eq_false (by omega)).symm)
      | (simp [retOf]; done)
  have hyA := of_decide_eq_true hyA
  cases yB
  · have hyB := of_decide_eq_false hyB
    obtain rfl : x = false := by rw [← hx]; exact decide_eq_false (fun h => hyB h.2.2.1)
    clear hx hyA hyB hyC
    refine acalls_law Tryz.func82 rfl rfl rfl ?_
    repeat' first | refine st ?_ | refine st_call (HA) ?_ | refine st_call (HB) ?_ | refine stm ?_ | refine Ja ?_ | refine Jb ?_ | refine Jd ?_ | refine run_nil ?_ | refine Jz ?_ | refine Jw ?_ | refine aw_block ?_ | refine Jq ?_ | refine Jr ?_ | refine aw_ret ?_ | refine pp_ret ?_
    all_goals first
      | rfl
      | (exfalso; omega)
      | (refine congrArg Value.bool ?_; first | exact decide_eq_true (by omega) | exact decide_eq_false (by omega) | exact (decide_eq_true (by omega)).symm | exact (decide_eq_false (by omega)).symm)
      | (show Value.bool _ = Value.bool _; congr 1; first | exact decide_eq_true (by omega) | exact decide_eq_false (by omega) | exact (decide_eq_true (by omega)).symm | exact (decide_eq_false (by omega)).symm)
      | (simp [retOf]; done)
  have hyB := of_decide_eq_true hyB
  cases yC
  · have hyC := of_decide_eq_false hyC
    obtain rfl : x = false := by rw [← hx]; exact decide_eq_false (fun h => hyC h.2.2.2)
    clear hx hyA hyB hyC
    refine acalls_law Tryz.func82 rfl rfl rfl ?_
    repeat' first | refine st ?_ | refine st_call (HA) ?_ | refine st_call (HB) ?_ | refine st_call (HC) ?_ | refine stm ?_ | refine Ja ?_ | refine Jd ?_ | refine run_nil ?_ | refine Jz ?_ | refine Jw ?_ | refine aw_block ?_ | refine Jq ?_ | refine Jr ?_ | refine aw_ret ?_ | refine pp_ret ?_
    all_goals first
      | rfl
      | (exfalso; omega)
      | (refine congrArg Value.bool ?_; first | exact decide_eq_true (by omega) | exact decide_eq_false (by omega) | exact (decide_eq_true (by omega)).symm | exact (decide_eq_false (by omega)).symm)
      | (show Value.bool _ = Value.bool _; congr 1; first | exact decide_eq_true (by omega) | exact decide_eq_false (by omega) | exact (decide_eq_true (by omega)).symm | exact (decide_eq_false (by omega)).symm)
      | (simp [retOf]; done)
  have hyC := of_decide_eq_true hyC
  obtain rfl : x = true := by rw [← hx]; exact decide_eq_true ⟨htg, hyA, hyB, hyC⟩
  clear hx
  clear hyA hyB hyC
  refine acalls_law Tryz.func82 rfl rfl rfl ?_
  repeat' first | refine st ?_ | refine st_call (HA) ?_ | refine st_call (HB) ?_ | refine st_call (HC) ?_ | refine stm ?_ | refine Ja ?_ | refine Jd ?_ | refine run_nil ?_ | refine Jz ?_ | refine Jw ?_ | refine aw_block ?_ | refine Jq ?_ | refine Jr ?_ | refine aw_ret ?_ | refine pp_ret ?_
  all_goals first
    | rfl
    | (exfalso; omega)
    | (refine congrArg Value.bool ?_; first | exact decide_eq_true (by omega) | exact decide_eq_false (by omega) | exact (decide_eq_true (by omega)).symm | exact (decide_eq_false (by omega)).symm)
    | (show Value.bool _ = Value.bool _; congr 1; first | exact decide_eq_true (by omega) | exact decide_eq_false (by omega) | exact (decide_eq_true (by omega)).symm | exact (decide_eq_false (by omega)).symm)
    | (simp [retOf]; done)
set_option maxHeartbeats 8000000 in
theorem ac_fields4 (sr tg li sq fl nu er sx rk ep : Int) (dt : ByteArray) (x : Bool) (hx : decide (tg = -1 ∨ (((0 ≤ tg ∧ tg ≤ 31) ∧ tg ≠ sr))) = x) : ACalls Tryz.prog 82 [.agg #[.int .i64 4, .int .i64 sr, .int .i64 tg, .int .i64 li, .int .i64 sq, .int .i64 fl, .int .i64 nu, .int .i64 er, .int .i64 sx, .int .i64 rk, .int .i64 ep, .string dt]] [] (.tuple #[.agg #[.int .i64 4, .int .i64 sr, .int .i64 tg, .int .i64 li, .int .i64 sq, .int .i64 fl, .int .i64 nu, .int .i64 er, .int .i64 sx, .int .i64 rk, .int .i64 ep, .string ⟨#[]⟩], .bool x]) [] := by
  obtain ⟨yT, hyT⟩ : ∃ y, decide (((0 ≤ tg ∧ tg ≤ 31) ∧ tg ≠ sr)) = y := ⟨_, rfl⟩
  have HT := ac_ftg 4 sr tg li sq fl nu er sx rk ep dt yT hyT
  by_cases htg : tg = -1
  · obtain rfl : x = true := by rw [← hx]; exact decide_eq_true (.inl htg)
    clear hx hyT
    refine acalls_law Tryz.func82 rfl rfl rfl ?_
    repeat' first | refine st ?_ | refine stm ?_ | refine Jb ?_ | refine Jg ?_ | refine run_nil ?_ | refine Jz ?_ | refine Jw ?_ | refine aw_block ?_ | refine Jq ?_ | refine Jr ?_ | refine aw_ret ?_ | refine pp_ret ?_
    all_goals first
      | rfl
      | (exfalso; omega)
      | (refine congrArg Value.bool ?_; first | exact decide_eq_true (by omega) | exact decide_eq_false (by omega) | exact (decide_eq_true (by omega)).symm | exact (decide_eq_false (by omega)).symm)
      | (show Value.bool _ = Value.bool _; congr 1; first | exact decide_eq_true (by omega) | exact decide_eq_false (by omega) | exact (decide_eq_true (by omega)).symm | exact (decide_eq_false (by omega)).symm)
      | (simp [retOf]; done)
  cases yT
  · have hyT := of_decide_eq_false hyT
    obtain rfl : x = false := by rw [← hx]; exact decide_eq_false (fun h => h.elim htg hyT)
    clear hx hyT
    refine acalls_law Tryz.func82 rfl rfl rfl ?_
    repeat' first | refine st ?_ | refine st_call (HT) ?_ | refine stm ?_ | refine Ja ?_ | refine Jf ?_ | refine run_nil ?_ | refine Jz ?_ | refine Jw ?_ | refine aw_block ?_ | refine Jq ?_ | refine Jr ?_ | refine aw_ret ?_ | refine pp_ret ?_
    all_goals first
      | rfl
      | (exfalso; omega)
      | (refine congrArg Value.bool ?_; first | exact decide_eq_true (by omega) | exact decide_eq_false (by omega) | exact (decide_eq_true (by omega)).symm | exact (decide_eq_false (by omega)).symm)
      | (show Value.bool _ = Value.bool _; congr 1; first | exact decide_eq_true (by omega) | exact decide_eq_false (by omega) | exact (decide_eq_true (by omega)).symm | exact (decide_eq_false (by omega)).symm)
      | (simp [retOf]; done)
  have hyT := of_decide_eq_true hyT
  obtain rfl : x = true := by rw [← hx]; exact decide_eq_true (.inr hyT)
  clear hx
  clear hyT
  refine acalls_law Tryz.func82 rfl rfl rfl ?_
  repeat' first | refine st ?_ | refine st_call (HT) ?_ | refine stm ?_ | refine Ja ?_ | refine Jf ?_ | refine run_nil ?_ | refine Jz ?_ | refine Jw ?_ | refine aw_block ?_ | refine Jq ?_ | refine Jr ?_ | refine aw_ret ?_ | refine pp_ret ?_
  all_goals first
    | rfl
    | (exfalso; omega)
    | (refine congrArg Value.bool ?_; first | exact decide_eq_true (by omega) | exact decide_eq_false (by omega) | exact (decide_eq_true (by omega)).symm | exact (decide_eq_false (by omega)).symm)
    | (show Value.bool _ = Value.bool _; congr 1; first | exact decide_eq_true (by omega) | exact decide_eq_false (by omega) | exact (decide_eq_true (by omega)).symm | exact (decide_eq_false (by omega)).symm)
    | (simp [retOf]; done)
set_option maxHeartbeats 8000000 in
theorem ac_fieldsX (kd sr tg li sq fl nu er sx rk ep : Int) (dt : ByteArray) (h1 : kd ≠ 1) (h2 : kd ≠ 2) (h3 : kd ≠ 3) (h4 : kd ≠ 4) : ACalls Tryz.prog 82 [.agg #[.int .i64 kd, .int .i64 sr, .int .i64 tg, .int .i64 li, .int .i64 sq, .int .i64 fl, .int .i64 nu, .int .i64 er, .int .i64 sx, .int .i64 rk, .int .i64 ep, .string dt]] [] (.tuple #[.agg #[.int .i64 kd, .int .i64 sr, .int .i64 tg, .int .i64 li, .int .i64 sq, .int .i64 fl, .int .i64 nu, .int .i64 er, .int .i64 sx, .int .i64 rk, .int .i64 ep, .string dt], .bool false]) [] := by
  refine acalls_law Tryz.func82 rfl rfl rfl ?_
  repeat' first | refine st ?_ | refine stm ?_ | refine run_nil ?_ | refine Jz ?_ | refine Jw ?_ | refine aw_block ?_ | refine Jt ?_ | refine Jy ?_ | refine aw_ret ?_ | refine pp_ret ?_
  all_goals first
    | rfl
    | (exfalso; omega)
    | (refine congrArg Value.bool ?_; first | exact decide_eq_true (by omega) | exact decide_eq_false (by omega) | exact (decide_eq_true (by omega)).symm | exact (decide_eq_false (by omega)).symm)
    | (show Value.bool _ = Value.bool _; congr 1; first | exact decide_eq_true (by omega) | exact decide_eq_false (by omega) | exact (decide_eq_true (by omega)).symm | exact (decide_eq_false (by omega)).symm)
    | (simp [retOf]; done)
end Go.Proofs.YtdenooeaiicheaaGreat
