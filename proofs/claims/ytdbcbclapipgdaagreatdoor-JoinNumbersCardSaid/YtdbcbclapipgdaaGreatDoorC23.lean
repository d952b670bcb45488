/- Join: names, numbers in decimal (plain); Join: names, secrets, numbers in decimal. -/
import Derived.Test.YtdbcbclapipgdaaGreatDoorVO
import Derived.Test.YtdbcbclapipgdaaGreatDoorJ
import Derived.Test.YtdbcbclapipgdaaGreatDoorC22
set_option linter.unusedVariables false
set_option linter.unusedSimpArgs false
namespace Go.Proofs.YtdbcbclapipgdaaGreatDoor
open Go Av
set_option maxRecDepth 20000
theorem nmc_iff {c : Nat} : nmc c = true ↔ (97 ≤ c ∧ c ≤ 122 ∨ 48 ≤ c ∧ c ≤ 57 ∨ c = 45) := decide_eq_true_iff
structure Ni where
  i : Nat
set_option maxHeartbeats 2000000 in
theorem ac_rName (s : ByteArray) (x : Bool) (hx : nmB s = x) : ACalls Tryz.prog 24 [.string s] [] (.bool x) [] := by
  unfold nmB at hx
  obtain ⟨c0, hc0⟩ : ∃ c, (byteAt s 0).toNat = c := ⟨_, rfl⟩
  rw [hc0] at hx
  by_cases hs : 1 ≤ s.size ∧ s.size ≤ 32 ∧ 97 ≤ c0 ∧ c0 ≤ 122
  case neg =>
    obtain rfl : x = false := by rw [← hx]; rw [decide_eq_false hs]; rfl
    have hx : decide False = false := rfl
    refine acalls_pure Tryz.func24 rfl rfl rfl ?_
    repeat' first | intro h1 | intro h1 | refine st (h := ok_str_indexD rfl rfl (by omega) hc0) ?_ | refine st ?_ | refine stm ?_ | refine Ja ?_ | refine Jb ?_ | refine Jc ?_ | refine Jd ?_ | refine Je ?_ | refine Jf ?_ | refine Jg ?_ | refine Jh ?_ ?_ | refine Ji ?_ ?_ | refine Jj ?_ ?_ | refine run_nil ?_ | refine Jz ?_ | refine Jw ?_ | refine aw_block ?_ | refine Jq ?_ | refine Jr ?_ | refine Js ?_ | refine Jt ?_ | refine Ju ?_ ?_ | refine Jv ?_ ?_ | refine Jy ?_ | refine aw_exit ?_ | refine aw_ret ?_ | refine pp_ret ?_ | refine pp_normal ?_
    all_goals first
      | rfl
      | (exfalso; omega)
      | (rw [← hx]; refine congrArg Value.bool ?_; first | exact (decide_eq_true (by omega)).symm | exact (decide_eq_false (by omega)).symm | exact decide_eq_decide.2 (by omega))
      | (rw [← hx]; show Value.bool _ = Value.bool _; congr 1; first | exact (decide_eq_true (by omega)).symm | exact (decide_eq_false (by omega)).symm | exact decide_eq_decide.2 (by omega) | (rw [← decide_not]; exact decide_eq_decide.2 (by omega)))
      | (exfalso; simp only [Bool.not_eq_true', Bool.not_eq_false', decide_eq_true_eq, decide_eq_false_iff_not, Bool.not_false, Bool.not_true] at *; omega)
      | (simp [retOf]; done)
      | (exfalso; simp_all; done)
  rw [decide_eq_true hs, Bool.true_and] at hx
  obtain ⟨n, hn⟩ : ∃ n, s.size = n := ⟨_, rfl⟩
  refine acalls_pure Tryz.func24 rfl rfl rfl ?_
  repeat' first | intro h1 | intro h1 | refine st (h := ok_str_indexD rfl rfl (by omega) hc0) ?_ | refine st ?_ | refine stm ?_ | refine Ja ?_ | refine Jb ?_ | refine Jc ?_ | refine Jd ?_ | refine Je ?_ | refine Jf ?_ | refine Jg ?_ | refine Jh ?_ ?_ | refine Ji ?_ ?_ | refine Jj ?_ ?_ | refine run_nil ?_ | refine Jz ?_ | refine Jw ?_ | refine aw_block ?_ | refine Jq ?_ | refine Jr ?_ | refine Js ?_ | refine Jt ?_ | refine Ju ?_ ?_ | refine Jv ?_ ?_ | refine Jy ?_ | refine aw_exit ?_ | refine aw_ret ?_ | refine pp_ret ?_ | refine pp_normal ?_
  all_goals try (exfalso; omega)
  refine aw_loopg
    (S := fun y : Ni => [(0, .string s), (3, .int .i64 y.i)])
    (B := fun _ : Ni => [])
    (R := fun y : Ni => y.i ≤ n ∧ ∀ j, j < y.i → nmc (byteAt s j).toNat = true)
    (μ := fun y : Ni => n - y.i) ⟨0⟩ (fitsD []) ⟨Nat.zero_le _, fun j hj => absurd hj (Nat.not_lt_zero _)⟩ ?_
  rintro ⟨i⟩ ⟨g1, g2⟩
  dsimp only at *
  by_cases hi : i < n
  · obtain ⟨c, hc⟩ : ∃ c, (byteAt s i).toNat = c := ⟨_, rfl⟩
    cases hq : nmc c with
    | true =>
      have hst : ∀ j, j < i + 1 → nmc (byteAt s j).toNat = true := fun j hj => by
        rcases Nat.lt_or_ge j i with h | h
        · exact g2 j h
        · obtain rfl : j = i := by omega
          rw [hc]; exact hq
      have hq := nmc_iff.1 hq
      clear g2
      repeat' first | intro h1 | intro h1 | refine st (h := ok_str_indexD rfl rfl (by omega) hc) ?_ | refine st ?_ | refine stm ?_ | refine Ja ?_ | refine Jb ?_ | refine Jc ?_ | refine Jd ?_ | refine Je ?_ | refine Jf ?_ | refine Jg ?_ | refine Jh ?_ ?_ | refine Ji ?_ ?_ | refine Jj ?_ ?_ | refine run_nil ?_ | refine Jz ?_ | refine Jw ?_ | refine aw_block ?_ | refine Jq ?_ | refine Jr ?_ | refine Js ?_ | refine Jt ?_ | refine Ju ?_ ?_ | refine Jv ?_ ?_ | refine Jy ?_ | refine aw_exit ?_ | refine aw_ret ?_ | refine pp_ret ?_ | refine pp_normal ?_
      all_goals first | exact Exists.intro ⟨i + 1⟩ ⟨fitsD [], ⟨hi, hst⟩, by dsimp only; omega⟩ | (exfalso; omega)
    | false =>
      obtain rfl : x = false := by
        rw [← hx]
        refine decide_eq_false fun h => ?_
        have h2 := h i (by omega)
        rw [hc, hq] at h2
        cases h2
      have hq := of_decide_eq_false hq
      clear g2 hx
      repeat' first | intro h1 | intro h1 | refine st (h := ok_str_indexD rfl rfl (by omega) hc) ?_ | refine st ?_ | refine stm ?_ | refine Ja ?_ | refine Jb ?_ | refine Jc ?_ | refine Jd ?_ | refine Je ?_ | refine Jf ?_ | refine Jg ?_ | refine Jh ?_ ?_ | refine Ji ?_ ?_ | refine Jj ?_ ?_ | refine run_nil ?_ | refine Jz ?_ | refine Jw ?_ | refine aw_block ?_ | refine Jq ?_ | refine Jr ?_ | refine Js ?_ | refine Jt ?_ | refine Ju ?_ ?_ | refine Jv ?_ ?_ | refine Jy ?_ | refine aw_exit ?_ | refine aw_ret ?_ | refine pp_ret ?_ | refine pp_normal ?_
      all_goals first
        | rfl
        | (exfalso; omega)
        | (rw [← hx]; refine congrArg Value.bool ?_; first | exact (decide_eq_true (by omega)).symm | exact (decide_eq_false (by omega)).symm | exact decide_eq_decide.2 (by omega))
        | (rw [← hx]; show Value.bool _ = Value.bool _; congr 1; first | exact (decide_eq_true (by omega)).symm | exact (decide_eq_false (by omega)).symm | exact decide_eq_decide.2 (by omega) | (rw [← decide_not]; exact decide_eq_decide.2 (by omega)))
        | (exfalso; simp only [Bool.not_eq_true', Bool.not_eq_false', decide_eq_true_eq, decide_eq_false_iff_not, Bool.not_false, Bool.not_true] at *; omega)
        | (simp [retOf]; done)
        | (exfalso; simp_all; done)
  · obtain rfl : i = n := by omega
    obtain rfl : x = true := by rw [← hx]; exact decide_eq_true (by rw [hn]; exact g2)
    clear g2 hx
    repeat' first | intro h1 | intro h1 | refine st ?_ | refine stm ?_ | refine Ja ?_ | refine Jb ?_ | refine Jc ?_ | refine Jd ?_ | refine Je ?_ | refine Jf ?_ | refine Jg ?_ | refine Jh ?_ ?_ | refine Ji ?_ ?_ | refine Jj ?_ ?_ | refine run_nil ?_ | refine Jz ?_ | refine Jw ?_ | refine aw_block ?_ | refine Jq ?_ | refine Jr ?_ | refine Js ?_ | refine Jt ?_ | refine Ju ?_ ?_ | refine Jv ?_ ?_ | refine Jy ?_ | refine aw_exit ?_ | refine aw_ret ?_ | refine pp_ret ?_ | refine pp_normal ?_
    all_goals first
      | rfl
      | (exfalso; omega)
      | (rw [← hx]; refine congrArg Value.bool ?_; first | exact (decide_eq_true (by omega)).symm | exact (decide_eq_false (by omega)).symm | exact decide_eq_decide.2 (by omega))
      | (rw [← hx]; show Value.bool _ = Value.bool _; congr 1; first | exact (decide_eq_true (by omega)).symm | exact (decide_eq_false (by omega)).symm | exact decide_eq_decide.2 (by omega) | (rw [← decide_not]; exact decide_eq_decide.2 (by omega)))
      | (exfalso; simp only [Bool.not_eq_true', Bool.not_eq_false', decide_eq_true_eq, decide_eq_false_iff_not, Bool.not_false, Bool.not_true] at *; omega)
      | (simp [retOf]; done)
      | (exfalso; simp_all; done)
end Go.Proofs.YtdbcbclapipgdaaGreatDoor
