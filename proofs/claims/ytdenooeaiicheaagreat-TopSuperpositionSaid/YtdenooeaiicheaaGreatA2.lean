/- Powers, channels, intervals: the pure functions. -/
import Derived.Test.YtdenooeaiicheaaGreatVL
import Derived.Test.YtdenooeaiicheaaGreatA1
set_option linter.unusedVariables false
set_option linter.unusedSimpArgs false
namespace Go.Proofs.YtdenooeaiicheaaGreat
open Go Av
set_option maxRecDepth 20000
set_option maxHeartbeats 4000000 in
theorem ac_point (x0 y0 : Int) (x : Bool) (hx : ptB x0 y0 = x) : ACalls Tryz.prog 39 [.agg #[.int .i64 x0, .int .i64 y0]] [] (.bool x) [] := by
  unfold ptB at hx
  refine acalls_pure Tryz.func39 rfl rfl rfl ?_
  repeat' first | intro h1 | refine st ?_ | refine stm ?_ | refine Ja ?_ | refine Jb ?_ | refine Jh ?_ ?_ | refine run_nil ?_ | refine Jz ?_ | refine Jw ?_ | refine aw_ret ?_ | refine pp_ret ?_
  all_goals first
    | rfl
    | (exfalso; omega)
    | (rw [← hx]; refine congrArg Value.bool ?_; first | exact (decide_eq_true (by omega)).symm | exact (decide_eq_false (by omega)).symm | exact decide_eq_decide.2 (by omega))
    | (rw [← hx]; show Value.bool _ = Value.bool _; congr 1; first | exact (decide_eq_true (by omega)).symm | exact (decide_eq_false (by omega)).symm | exact decide_eq_decide.2 (by omega))
    | (exfalso; simp only [Bool.not_eq_true', Bool.not_eq_false', decide_eq_true_eq, decide_eq_false_iff_not, Bool.not_false, Bool.not_true] at *; omega)
    | (simp [retOf]; done)
set_option maxHeartbeats 4000000 in
theorem ac_isPower (n : Int) (x : Bool) (hx : powB n = x) : ACalls Tryz.prog 42 [.int .i64 n] [] (.bool x) [] := by
  unfold powB at hx
  refine acalls_pure Tryz.func42 rfl rfl rfl ?_
  repeat' first | intro h1 | refine st ?_ | refine Ja ?_ | refine Jb ?_ | refine Jh ?_ ?_ | refine run_nil ?_ | refine Jz ?_ | refine Jw ?_ | refine aw_ret ?_ | refine pp_ret ?_
  all_goals first
    | rfl
    | (exfalso; omega)
    | (rw [← hx]; refine congrArg Value.bool ?_; first | exact (decide_eq_true (by omega)).symm | exact (decide_eq_false (by omega)).symm | exact decide_eq_decide.2 (by omega))
    | (rw [← hx]; show Value.bool _ = Value.bool _; congr 1; first | exact (decide_eq_true (by omega)).symm | exact (decide_eq_false (by omega)).symm | exact decide_eq_decide.2 (by omega))
    | (exfalso; simp only [Bool.not_eq_true', Bool.not_eq_false', decide_eq_true_eq, decide_eq_false_iff_not, Bool.not_false, Bool.not_true] at *; omega)
    | (simp [retOf]; done)
set_option maxHeartbeats 4000000 in
theorem ac_power (n : Int) (x : Bool) (hx : powB n = x) : ACalls Tryz.prog 92 [.int .i64 n] [] (.bool x) [] := by
  unfold powB at hx
  refine acalls_pure Tryz.func92 rfl rfl rfl ?_
  repeat' first | intro h1 | refine st ?_ | refine Ja ?_ | refine Jb ?_ | refine Jh ?_ ?_ | refine run_nil ?_ | refine Jz ?_ | refine Jw ?_ | refine aw_ret ?_ | refine pp_ret ?_
  all_goals first
    | rfl
    | (exfalso; omega)
    | (rw [← hx]; refine congrArg Value.bool ?_; first | exact (decide_eq_true (by omega)).symm | exact (decide_eq_false (by omega)).symm | exact decide_eq_decide.2 (by omega))
    | (rw [← hx]; show Value.bool _ = Value.bool _; congr 1; first | exact (decide_eq_true (by omega)).symm | exact (decide_eq_false (by omega)).symm | exact decide_eq_decide.2 (by omega))
    | (exfalso; simp only [Bool.not_eq_true', Bool.not_eq_false', decide_eq_true_eq, decide_eq_false_iff_not, Bool.not_false, Bool.not_true] at *; omega)
    | (simp [retOf]; done)
set_option maxHeartbeats 4000000 in
theorem ac_conds (t n : Int) (x : Bool) (hx : condB t n = x) : ACalls Tryz.prog 93 [.int .i64 t, .int .i64 n] [] (.bool x) [] := by
  unfold condB at hx
  refine acalls_pure Tryz.func93 rfl rfl rfl ?_
  repeat' first | intro h1 | refine st ?_ | refine Ja ?_ | refine Jb ?_ | refine Jh ?_ ?_ | refine run_nil ?_ | refine Jz ?_ | refine Jw ?_ | refine aw_ret ?_ | refine pp_ret ?_
  all_goals first
    | rfl
    | (exfalso; omega)
    | (rw [← hx]; refine congrArg Value.bool ?_; first | exact (decide_eq_true (by omega)).symm | exact (decide_eq_false (by omega)).symm | exact decide_eq_decide.2 (by omega))
    | (rw [← hx]; show Value.bool _ = Value.bool _; congr 1; first | exact (decide_eq_true (by omega)).symm | exact (decide_eq_false (by omega)).symm | exact decide_eq_decide.2 (by omega))
    | (exfalso; simp only [Bool.not_eq_true', Bool.not_eq_false', decide_eq_true_eq, decide_eq_false_iff_not, Bool.not_false, Bool.not_true] at *; omega)
    | (simp [retOf]; done)
set_option maxHeartbeats 4000000 in
theorem ac_chn (c : Int) (x : Bool) (hx : chnB c = x) : ACalls Tryz.prog 74 [.int .i64 c] [] (.bool x) [] := by
  unfold chnB at hx
  refine acalls_pure Tryz.func74 rfl rfl rfl ?_
  repeat' first | intro h1 | refine st ?_ | refine Ja ?_ | refine Jb ?_ | refine Jh ?_ ?_ | refine run_nil ?_ | refine Jz ?_ | refine Jw ?_ | refine aw_ret ?_ | refine pp_ret ?_
  all_goals first
    | rfl
    | (exfalso; omega)
    | (rw [← hx]; refine congrArg Value.bool ?_; first | exact (decide_eq_true (by omega)).symm | exact (decide_eq_false (by omega)).symm | exact decide_eq_decide.2 (by omega))
    | (rw [← hx]; show Value.bool _ = Value.bool _; congr 1; first | exact (decide_eq_true (by omega)).symm | exact (decide_eq_false (by omega)).symm | exact decide_eq_decide.2 (by omega))
    | (exfalso; simp only [Bool.not_eq_true', Bool.not_eq_false', decide_eq_true_eq, decide_eq_false_iff_not, Bool.not_false, Bool.not_true] at *; omega)
    | (simp [retOf]; done)
set_option maxHeartbeats 4000000 in
theorem ac_hchn (c : Int) (x : Bool) (hx : chnB c = x) : ACalls Tryz.prog 91 [.int .i64 c] [] (.bool x) [] := by
  unfold chnB at hx
  refine acalls_pure Tryz.func91 rfl rfl rfl ?_
  repeat' first | intro h1 | refine st ?_ | refine Ja ?_ | refine Jb ?_ | refine Jh ?_ ?_ | refine run_nil ?_ | refine Jz ?_ | refine Jw ?_ | refine aw_ret ?_ | refine pp_ret ?_
  all_goals first
    | rfl
    | (exfalso; omega)
    | (rw [← hx]; refine congrArg Value.bool ?_; first | exact (decide_eq_true (by omega)).symm | exact (decide_eq_false (by omega)).symm | exact decide_eq_decide.2 (by omega))
    | (rw [← hx]; show Value.bool _ = Value.bool _; congr 1; first | exact (decide_eq_true (by omega)).symm | exact (decide_eq_false (by omega)).symm | exact decide_eq_decide.2 (by omega))
    | (exfalso; simp only [Bool.not_eq_true', Bool.not_eq_false', decide_eq_true_eq, decide_eq_false_iff_not, Bool.not_false, Bool.not_true] at *; omega)
    | (simp [retOf]; done)
set_option maxHeartbeats 4000000 in
theorem ac_nod (a : Int) (x : Bool) (hx : nodB a = x) : ACalls Tryz.prog 77 [.int .i64 a] [] (.bool x) [] := by
  unfold nodB at hx
  refine acalls_pure Tryz.func77 rfl rfl rfl ?_
  repeat' first | intro h1 | refine st ?_ | refine Ja ?_ | refine Jb ?_ | refine Jh ?_ ?_ | refine run_nil ?_ | refine Jz ?_ | refine Jw ?_ | refine aw_ret ?_ | refine pp_ret ?_
  all_goals first
    | rfl
    | (exfalso; omega)
    | (rw [← hx]; refine congrArg Value.bool ?_; first | exact (decide_eq_true (by omega)).symm | exact (decide_eq_false (by omega)).symm | exact decide_eq_decide.2 (by omega))
    | (rw [← hx]; show Value.bool _ = Value.bool _; congr 1; first | exact (decide_eq_true (by omega)).symm | exact (decide_eq_false (by omega)).symm | exact decide_eq_decide.2 (by omega))
    | (exfalso; simp only [Bool.not_eq_true', Bool.not_eq_false', decide_eq_true_eq, decide_eq_false_iff_not, Bool.not_false, Bool.not_true] at *; omega)
    | (simp [retOf]; done)
set_option maxHeartbeats 4000000 in
theorem ac_itv (a c : Int) (x : Bool) (hx : itvB a c = x) : ACalls Tryz.prog 78 [.int .i64 a, .int .i64 c] [] (.bool x) [] := by
  unfold itvB at hx
  refine acalls_pure Tryz.func78 rfl rfl rfl ?_
  repeat' first | intro h1 | refine st ?_ | refine Ja ?_ | refine Jb ?_ | refine Jh ?_ ?_ | refine run_nil ?_ | refine Jz ?_ | refine Jw ?_ | refine aw_ret ?_ | refine pp_ret ?_
  all_goals first
    | rfl
    | (exfalso; omega)
    | (rw [← hx]; refine congrArg Value.bool ?_; first | exact (decide_eq_true (by omega)).symm | exact (decide_eq_false (by omega)).symm | exact decide_eq_decide.2 (by omega))
    | (rw [← hx]; show Value.bool _ = Value.bool _; congr 1; first | exact (decide_eq_true (by omega)).symm | exact (decide_eq_false (by omega)).symm | exact decide_eq_decide.2 (by omega))
    | (exfalso; simp only [Bool.not_eq_true', Bool.not_eq_false', decide_eq_true_eq, decide_eq_false_iff_not, Bool.not_false, Bool.not_true] at *; omega)
    | (simp [retOf]; done)
set_option maxHeartbeats 4000000 in
theorem ac_ov (n1 c1 f1 t1 n2 c2 f2 t2 : Int) (x : Bool) (hx : ovB f1 t1 f2 t2 = x) : ACalls Tryz.prog 24 [.agg #[.int .i64 n1, .int .i64 c1, .int .i64 f1, .int .i64 t1], .agg #[.int .i64 n2, .int .i64 c2, .int .i64 f2, .int .i64 t2]] [] (.bool x) [] := by
  unfold ovB at hx
  refine acalls_pure Tryz.func24 rfl rfl rfl ?_
  repeat' first | refine st ?_ | refine stm ?_ | refine run_nil ?_ | refine Jz ?_ | refine Jw ?_ | refine aw_ret ?_ | refine pp_ret ?_
  all_goals first
    | rfl
    | (exfalso; omega)
    | (rw [← hx]; refine congrArg Value.bool ?_; first | exact (decide_eq_true (by omega)).symm | exact (decide_eq_false (by omega)).symm | exact decide_eq_decide.2 (by omega))
    | (rw [← hx]; show Value.bool _ = Value.bool _; congr 1; first | exact (decide_eq_true (by omega)).symm | exact (decide_eq_false (by omega)).symm | exact decide_eq_decide.2 (by omega))
    | (exfalso; simp only [Bool.not_eq_true', Bool.not_eq_false', decide_eq_true_eq, decide_eq_false_iff_not, Bool.not_false, Bool.not_true] at *; omega)
    | (simp [retOf]; done)
/-- A power scaled. -/
def sclI (p f : Int) : Int := if powB p = true ∧ 0 ≤ f ∧ f ≤ 1000 then p * f / 1000 else 0
def sclE (p f : Int) : Int := if powB p = true ∧ 0 ≤ f ∧ f ≤ 1000 then 0 else 2
theorem scl_bd {p f : Int} (h : 0 ≤ p ∧ p ≤ 68719476736) : 0 ≤ sclI p f ∧ sclI p f ≤ 68719476736 := by
  unfold sclI
  split
  · rename_i hc
    have h1 : 0 ≤ p * f := Int.mul_nonneg h.1 hc.2.1
    have h2 : p * f ≤ p * 1000 := Int.mul_le_mul_of_nonneg_left hc.2.2 h.1
    omega
  · omega
def mrgI (s t n : Int) : Int := if powB s = true ∧ condB t n = true then max (1000 * s / t - n) (-1) else 0
set_option maxHeartbeats 4000000 in
theorem ac_scale (p f v e : Int) (hv : sclI p f = v) (he : sclE p f = e) : ACalls Tryz.prog 95 [.int .i64 p, .int .i64 f] [] (.tuple #[.int .i64 v, .int .i64 e]) [] := by
  obtain ⟨y, hy⟩ : ∃ y, powB p = y := ⟨_, rfl⟩
  have H := ac_power p y hy
  unfold sclI at hv
  unfold sclE at he
  rw [hy] at hv he
  by_cases h : y = true ∧ 0 ≤ f ∧ f ≤ 1000
  · rw [if_pos h] at hv he
    subst he
    obtain ⟨rfl, h1, h2⟩ := h
    have hp := of_decide_eq_true hy
    obtain ⟨m, hm⟩ : ∃ m, p * f = m := ⟨_, rfl⟩
    have h3 : 0 ≤ p * f := Int.mul_nonneg hp.1 h1
    have h4 : p * f ≤ p * 1000 := Int.mul_le_mul_of_nonneg_left h2 hp.1
    rw [hm] at h3 h4 hv
    subst hv
    clear hy
    refine acalls_pure Tryz.func95 rfl rfl rfl ?_
    repeat' first | refine st (v := .int .i64 m) (h := by (rw [← hm]; exact ok_mul64 rfl rfl (by omega))) ?_ | refine st (h := ok_quo64 rfl rfl (by omega)) ?_ | refine st ?_ | refine st_call (H) ?_ | refine Ja ?_ | refine Jf ?_ | refine run_nil ?_ | refine Jz ?_ | refine Jw ?_ | refine Jt ?_ | refine Jy ?_ | refine aw_ret ?_ | refine pp_ret ?_
    all_goals first
      | rfl
      | (exfalso; omega)
      | (refine congrArg Value.bool ?_; first | exact decide_eq_true (by omega) | exact decide_eq_false (by omega) | exact (decide_eq_true (by omega)).symm | exact (decide_eq_false (by omega)).symm)
      | (show Value.bool _ = Value.bool _; congr 1; first | exact decide_eq_true (by omega) | exact decide_eq_false (by omega) | exact (decide_eq_true (by omega)).symm | exact (decide_eq_false (by omega)).symm)
      | (simp [retOf]; done)
  · rw [if_neg h] at hv he
    subst hv he
    clear hy
    cases y
    · clear h
      refine acalls_pure Tryz.func95 rfl rfl rfl ?_
      repeat' first | refine st ?_ | refine st_call (H) ?_ | refine Jb ?_ | refine run_nil ?_ | refine Jz ?_ | refine Jw ?_ | refine Jq ?_ | refine aw_ret ?_ | refine pp_ret ?_
      all_goals first
        | rfl
        | (exfalso; omega)
        | (refine congrArg Value.bool ?_; first | exact decide_eq_true (by omega) | exact decide_eq_false (by omega) | exact (decide_eq_true (by omega)).symm | exact (decide_eq_false (by omega)).symm)
        | (show Value.bool _ = Value.bool _; congr 1; first | exact decide_eq_true (by omega) | exact decide_eq_false (by omega) | exact (decide_eq_true (by omega)).symm | exact (decide_eq_false (by omega)).symm)
        | (simp [retOf]; done)
    · by_cases h0 : 0 ≤ f
      · have h1 : ¬ f ≤ 1000 := fun k => h ⟨rfl, h0, k⟩
        clear h
        refine acalls_pure Tryz.func95 rfl rfl rfl ?_
        repeat' first | refine st ?_ | refine st_call (H) ?_ | refine Ja ?_ | refine Jf ?_ | refine run_nil ?_ | refine Jz ?_ | refine Jw ?_ | refine Js ?_ | refine aw_ret ?_ | refine pp_ret ?_
        all_goals first
          | rfl
          | (exfalso; omega)
          | (refine congrArg Value.bool ?_; first | exact decide_eq_true (by omega) | exact decide_eq_false (by omega) | exact (decide_eq_true (by omega)).symm | exact (decide_eq_false (by omega)).symm)
          | (show Value.bool _ = Value.bool _; congr 1; first | exact decide_eq_true (by omega) | exact decide_eq_false (by omega) | exact (decide_eq_true (by omega)).symm | exact (decide_eq_false (by omega)).symm)
          | (simp [retOf]; done)
      · clear h
        refine acalls_pure Tryz.func95 rfl rfl rfl ?_
        repeat' first | refine st ?_ | refine st_call (H) ?_ | refine Ja ?_ | refine Jb ?_ | refine Jg ?_ | refine run_nil ?_ | refine Jz ?_ | refine Jw ?_ | refine Jq ?_ | refine aw_ret ?_ | refine pp_ret ?_
        all_goals first
          | rfl
          | (exfalso; omega)
          | (refine congrArg Value.bool ?_; first | exact decide_eq_true (by omega) | exact decide_eq_false (by omega) | exact (decide_eq_true (by omega)).symm | exact (decide_eq_false (by omega)).symm)
          | (show Value.bool _ = Value.bool _; congr 1; first | exact decide_eq_true (by omega) | exact decide_eq_false (by omega) | exact (decide_eq_true (by omega)).symm | exact (decide_eq_false (by omega)).symm)
          | (simp [retOf]; done)
set_option maxHeartbeats 4000000 in
theorem ac_margin (s0 t n v : Int) (hv : mrgI s0 t n = v) : ∃ e, ACalls Tryz.prog 67 [.int .i64 s0, .int .i64 t, .int .i64 n] [] (.tuple #[.int .i64 v, .int .i64 e]) [] := by
  obtain ⟨y, hy⟩ : ∃ y, powB s0 = y := ⟨_, rfl⟩
  obtain ⟨z, hz⟩ : ∃ y, condB t n = y := ⟨_, rfl⟩
  have H := ac_power s0 y hy
  have H2 := ac_conds t n z hz
  unfold mrgI at hv
  rw [hy, hz] at hv
  cases y
  · rw [if_neg (fun h => absurd h.1 (by decide))] at hv
    subst hv
    refine ⟨2, ?_⟩
    clear hy hz
    refine acalls_pure Tryz.func67 rfl rfl rfl ?_
    repeat' first | refine st ?_ | refine st_call (H) ?_ | refine Jb ?_ | refine run_nil ?_ | refine Jz ?_ | refine Jw ?_ | refine Jq ?_ | refine aw_ret ?_ | refine pp_ret ?_
    all_goals first
      | rfl
      | (exfalso; omega)
      | (refine congrArg Value.bool ?_; first | exact decide_eq_true (by omega) | exact decide_eq_false (by omega) | exact (decide_eq_true (by omega)).symm | exact (decide_eq_false (by omega)).symm)
      | (show Value.bool _ = Value.bool _; congr 1; first | exact decide_eq_true (by omega) | exact decide_eq_false (by omega) | exact (decide_eq_true (by omega)).symm | exact (decide_eq_false (by omega)).symm)
      | (simp [retOf]; done)
  · cases z
    · rw [if_neg (fun h => absurd h.2 (by decide))] at hv
      subst hv
      refine ⟨2, ?_⟩
      clear hy hz
      refine acalls_pure Tryz.func67 rfl rfl rfl ?_
      repeat' first | refine st ?_ | refine st_call (H) ?_ | refine st_call (H2) ?_ | refine Ja ?_ | refine run_nil ?_ | refine Jz ?_ | refine Jw ?_ | refine Jq ?_ | refine aw_ret ?_ | refine pp_ret ?_
      all_goals first
        | rfl
        | (exfalso; omega)
        | (refine congrArg Value.bool ?_; first | exact decide_eq_true (by omega) | exact decide_eq_false (by omega) | exact (decide_eq_true (by omega)).symm | exact (decide_eq_false (by omega)).symm)
        | (show Value.bool _ = Value.bool _; congr 1; first | exact decide_eq_true (by omega) | exact decide_eq_false (by omega) | exact (decide_eq_true (by omega)).symm | exact (decide_eq_false (by omega)).symm)
        | (simp [retOf]; done)
    · rw [if_pos ⟨rfl, rfl⟩] at hv
      have hp := of_decide_eq_true hy
      have hc := of_decide_eq_true hz
      refine ⟨0, ?_⟩
      obtain ⟨q, hq⟩ : ∃ q, 1000 * s0 / t = q := ⟨_, rfl⟩
      have h1 : 0 ≤ q := by rw [← hq]; exact Int.ediv_nonneg (by omega) (by omega)
      have h2 : q ≤ 1000 * s0 := by rw [← hq]; exact Int.ediv_le_self _ (by omega)
      rw [hq] at hv
      subst hv
      clear hy hz
      refine acalls_pure Tryz.func67 rfl rfl rfl ?_
      repeat' first | refine st (v := .int .i64 q) (h := by (rw [← hq]; exact ok_quo64 rfl rfl (by omega))) ?_ | refine st ?_ | refine st_call (H) ?_ | refine st_call (H2) ?_ | refine Ja ?_ | refine run_nil ?_ | refine Jz ?_ | refine Jw ?_ | refine Jr ?_ | refine Jy ?_ | refine aw_ret ?_ | refine pp_ret ?_
      all_goals first
        | rfl
        | (exfalso; omega)
        | (refine congrArg Value.bool ?_; first | exact decide_eq_true (by omega) | exact decide_eq_false (by omega) | exact (decide_eq_true (by omega)).symm | exact (decide_eq_false (by omega)).symm)
        | (show Value.bool _ = Value.bool _; congr 1; first | exact decide_eq_true (by omega) | exact decide_eq_false (by omega) | exact (decide_eq_true (by omega)).symm | exact (decide_eq_false (by omega)).symm)
        | (simp [retOf]; done)
end Go.Proofs.YtdenooeaiicheaaGreat
