/- Hopping lists: their channels; Hopping lists and offers, checked. -/
import Derived.Test.YtdbcbclapipgdaaGreatDoorVO
import Derived.Test.YtdbcbclapipgdaaGreatDoorVN
import Derived.Test.YtdbcbclapipgdaaGreatDoorJ
import Derived.Test.YtdbcbclapipgdaaGreatDoorC10
set_option linter.unusedVariables false
set_option linter.unusedSimpArgs false
namespace Go.Proofs.YtdbcbclapipgdaaGreatDoor
open Go Av
set_option maxRecDepth 20000
theorem ac_channel (c : Int) : ACalls Tryz.prog 216 [.int .i64 c] [] (.bool (decide (0 ≤ c ∧ c < 16))) [] := by
  refine acalls_pure Tryz.func216 rfl rfl rfl ?_
  repeat' first | intro h1 | refine st ?_ | refine Kc ?_ | refine Ka ?_ | refine Kb ?_ ?_ | fail
  all_goals first
    | rfl
    | (show Value.bool _ = Value.bool _; congr 1; first | exact decide_eq_false (by omega) | exact decide_eq_true (by omega) | exact (decide_eq_false (by omega)).symm | exact (decide_eq_true (by omega)).symm | exact decide_eq_decide.2 (by omega))
    | (exfalso; omega)
    | (exfalso; simp only [Bool.not_eq_true', Bool.not_eq_false', decide_eq_true_eq, decide_eq_false_iff_not, Bool.not_false, Bool.not_true] at *; omega)
    | (exfalso; simp_all; first | done | omega)
theorem ac_rchannel (c : Int) : ACalls Tryz.prog 218 [.int .i64 c] [] (.bool (decide (0 ≤ c ∧ c < 16))) [] := by
  refine acalls_pure Tryz.func218 rfl rfl rfl ?_
  repeat' first | intro h1 | refine st ?_ | refine Kc ?_ | refine Ka ?_ | refine Kb ?_ ?_ | fail
  all_goals first
    | rfl
    | (show Value.bool _ = Value.bool _; congr 1; first | exact decide_eq_false (by omega) | exact decide_eq_true (by omega) | exact (decide_eq_false (by omega)).symm | exact (decide_eq_true (by omega)).symm | exact decide_eq_decide.2 (by omega))
    | (exfalso; omega)
    | (exfalso; simp only [Bool.not_eq_true', Bool.not_eq_false', decide_eq_true_eq, decide_eq_false_iff_not, Bool.not_false, Bool.not_true] at *; omega)
    | (exfalso; simp_all; first | done | omega)
set_option maxHeartbeats 2000000 in
theorem ac_channels (C : List Int) (n : Nat) (hn : C.length = n) (hb : n ≤ 9000000000000000000) (x : Bool) (hx : chOK C = x) : ACalls Tryz.prog 208 [.slice (some ⟨0, 0, none⟩) n n] [some ⟨List.map (Value.int .i64) C, false, 1⟩] (.bool x) [none] := by
  refine acalls_law Tryz.func208 rfl rfl rfl ?_
  repeat' first | intro h1 | refine st (h := ok_not_dec2 rfl) ?_ | refine st ?_ | refine Kc ?_ | refine Ka ?_ | refine Kb ?_ ?_ | fail
  refine aw_loopg
    (S := fun y : Og => [(0, .slice (some ⟨0, 0, none⟩) n n), (5, .slice (some ⟨0, 0, none⟩) n n), (6, .int .i64 n), (7, .int .i64 y.i)])
    (B := fun _ : Og => [some ⟨List.map (Value.int .i64) C, false, 1⟩])
    (R := fun y : Og => y.i ≤ n ∧ chP C y.i)
    (μ := fun y : Og => n - y.i) ⟨0⟩ (fitsD [0]) ⟨Nat.zero_le _, chP_zero C⟩ ?_
  rintro ⟨i⟩ ⟨g1, g2⟩
  dsimp only at *
  by_cases hi : i < n
  · obtain ⟨q, hq⟩ : ∃ q, C[i]? = some q := ⟨_, List.getElem?_eq_getElem (by omega)⟩
    obtain ⟨z, hz⟩ : ∃ z, hasI (C.take i) q = z := ⟨_, rfl⟩
    have H := ac_containsI C (C.take i) i (by omega) rfl (by omega) q z hz
    have HC := ac_channel q
    by_cases hr : 0 ≤ q ∧ q < 16
    · cases z
      · have hs := chP_step g2 hq hr hz
        repeat' first | intro h1 | refine st (h := ok_not_dec2 rfl) ?_ | refine st (h := ok_load_mapE (f := Value.int .i64) i hq rfl rfl rfl (by omega)) ?_ | refine sdl (h := ok_load_mapE (f := Value.int .i64) i hq rfl rfl rfl (by omega)) ?_ | refine st ?_ | refine st_call (HC) ?_ | refine sd_call (HC) ?_ | refine stRW [0] H ?_ | refine sdRW [0] H ?_ | refine Kc ?_ | refine Ka ?_ | refine Kb ?_ ?_ | fail
        all_goals first | exact Exists.intro ⟨i + 1⟩ ⟨fitsD [0], ⟨hi, hs⟩, by dsimp only; omega⟩ | (exfalso; omega)
      · obtain rfl : x = false := by rw [← hx]; exact chP_twice hq hz
        repeat' first | intro h1 | refine st (h := ok_not_dec2 rfl) ?_ | refine st (h := ok_load_mapE (f := Value.int .i64) i hq rfl rfl rfl (by omega)) ?_ | refine sdl (h := ok_load_mapE (f := Value.int .i64) i hq rfl rfl rfl (by omega)) ?_ | refine st ?_ | refine st_call (HC) ?_ | refine sd_call (HC) ?_ | refine stRW [0] H ?_ | refine sdRW [0] H ?_ | refine Kc ?_ | refine Ka ?_ | refine Kb ?_ ?_ | fail
        all_goals first
          | rfl
          | (exfalso; omega)
          | (exfalso; simp only [Bool.not_eq_true', Bool.not_eq_false', decide_eq_true_eq, decide_eq_false_iff_not, Bool.not_false, Bool.not_true] at *; omega)
          | (exfalso; simp_all; first | done | omega)
    · obtain rfl : x = false := by rw [← hx]; exact chP_bad hq hr
      repeat' first | intro h1 | refine st (h := ok_not_dec2 rfl) ?_ | refine st (h := ok_load_mapE (f := Value.int .i64) i hq rfl rfl rfl (by omega)) ?_ | refine sdl (h := ok_load_mapE (f := Value.int .i64) i hq rfl rfl rfl (by omega)) ?_ | refine st ?_ | refine st_call (HC) ?_ | refine sd_call (HC) ?_ | refine stRW [0] H ?_ | refine sdRW [0] H ?_ | refine Kc ?_ | refine Ka ?_ | refine Kb ?_ ?_ | fail
      all_goals first
        | rfl
        | (exfalso; omega)
        | (exfalso; simp only [Bool.not_eq_true', Bool.not_eq_false', decide_eq_true_eq, decide_eq_false_iff_not, Bool.not_false, Bool.not_true] at *; omega)
        | (exfalso; simp_all; first | done | omega)
  · obtain rfl : n = i := by omega
    rw [← hn] at g2
    by_cases h0 : n = 0
    · obtain rfl : C = [] := List.eq_nil_of_length_eq_zero (by omega)
      obtain rfl : x = false := by rw [← hx]; rfl
      repeat' first | intro h1 | refine st (h := ok_not_dec2 rfl) ?_ | refine st ?_ | refine Kc ?_ | refine Ka ?_ | refine Kb ?_ ?_ | fail
      all_goals first
        | rfl
        | (show Value.bool _ = Value.bool _; congr 1; first | exact decide_eq_false (by omega) | exact decide_eq_true (by omega) | exact (decide_eq_false (by omega)).symm | exact (decide_eq_true (by omega)).symm | exact decide_eq_decide.2 (by omega))
        | (exfalso; omega)
        | (exfalso; simp only [Bool.not_eq_true', Bool.not_eq_false', decide_eq_true_eq, decide_eq_false_iff_not, Bool.not_false, Bool.not_true] at *; omega)
        | (exfalso; simp_all; first | done | omega)
    · obtain rfl : x = true := by rw [← hx]; exact chP_end g2 (by omega)
      repeat' first | intro h1 | refine st (h := ok_not_dec2 rfl) ?_ | refine st ?_ | refine Kc ?_ | refine Ka ?_ | refine Kb ?_ ?_ | fail
      all_goals first
        | rfl
        | (show Value.bool _ = Value.bool _; congr 1; first | exact decide_eq_false (by omega) | exact decide_eq_true (by omega) | exact (decide_eq_false (by omega)).symm | exact (decide_eq_true (by omega)).symm | exact decide_eq_decide.2 (by omega))
        | (exfalso; omega)
        | (exfalso; simp only [Bool.not_eq_true', Bool.not_eq_false', decide_eq_true_eq, decide_eq_false_iff_not, Bool.not_false, Bool.not_true] at *; omega)
        | (exfalso; simp_all; first | done | omega)
set_option maxHeartbeats 2000000 in
theorem ac_different (C : List Int) (n : Nat) (hn : C.length = n) (hb : n ≤ 9000000000000000000) (x : Bool) (hx : chOK C = x) : ACalls Tryz.prog 209 [.slice (some ⟨0, 0, none⟩) n n] [some ⟨List.map (Value.int .i64) C, false, 1⟩] (.bool x) [none] := by
  refine acalls_law Tryz.func209 rfl rfl rfl ?_
  repeat' first | intro h1 | refine st (h := ok_not_dec2 rfl) ?_ | refine sd (h := ok_not_dec2 rfl) ?_ | refine st ?_ | refine Kc ?_ | refine Ka ?_ | refine Kb ?_ ?_ | refine J0 (id := 4) [0,0,3,7,15,31,63,127,127,511,127,127,3199,7295,16383,32767] 16 ?_ | fail
  refine aw_loopg
    (S := fun y : Og => [(0, .slice (some ⟨0, 0, none⟩) n n), (3, .int .i64 y.i)])
    (B := fun _ : Og => [some ⟨List.map (Value.int .i64) C, false, 1⟩])
    (R := fun y : Og => y.i ≤ n ∧ chP C y.i)
    (μ := fun y : Og => n - y.i) ⟨0⟩ (fitsD [0]) ⟨Nat.zero_le _, chP_zero C⟩ ?_
  rintro ⟨i⟩ ⟨g1, g2⟩
  dsimp only at *
  by_cases hi : i < n
  · obtain ⟨q, hq⟩ : ∃ q, C[i]? = some q := ⟨_, List.getElem?_eq_getElem (by omega)⟩
    obtain ⟨z, hz⟩ : ∃ z, hasI (C.take i) q = z := ⟨_, rfl⟩
    have H := ac_hasI C (C.take i) i (by omega) rfl (by omega) q z hz
    have HC := ac_rchannel q
    by_cases hr : 0 ≤ q ∧ q < 16
    · cases z
      · have hs := chP_step g2 hq hr hz
        repeat' first | intro h1 | refine st (h := ok_not_dec2 rfl) ?_ | refine sd (h := ok_not_dec2 rfl) ?_ | refine st (h := ok_load_mapE (f := Value.int .i64) i hq rfl rfl rfl (by omega)) ?_ | refine sdl (h := ok_load_mapE (f := Value.int .i64) i hq rfl rfl rfl (by omega)) ?_ | refine st ?_ | refine st_call (HC) ?_ | refine sd_call (HC) ?_ | refine stRW [0] H ?_ | refine sdRW [0] H ?_ | refine Kc ?_ | refine Ka ?_ | refine Kb ?_ ?_ | refine J0 (id := 4) [0,0,3,7,15,31,63,127,127,511,127,127,3199,7295,16383,32767] 16 ?_ | fail
        all_goals first | exact Exists.intro ⟨i + 1⟩ ⟨fitsD [0], ⟨hi, hs⟩, by dsimp only; omega⟩ | (exfalso; omega)
      · obtain rfl : x = false := by rw [← hx]; exact chP_twice hq hz
        repeat' first | intro h1 | refine st (h := ok_not_dec2 rfl) ?_ | refine sd (h := ok_not_dec2 rfl) ?_ | refine st (h := ok_load_mapE (f := Value.int .i64) i hq rfl rfl rfl (by omega)) ?_ | refine sdl (h := ok_load_mapE (f := Value.int .i64) i hq rfl rfl rfl (by omega)) ?_ | refine st ?_ | refine st_call (HC) ?_ | refine sd_call (HC) ?_ | refine stRW [0] H ?_ | refine sdRW [0] H ?_ | refine Kc ?_ | refine Ka ?_ | refine Kb ?_ ?_ | refine J0 (id := 4) [0,0,3,7,15,31,63,127,127,511,127,127,3199,7295,16383,32767] 16 ?_ | fail
        all_goals first
          | rfl
          | (exfalso; omega)
          | (exfalso; simp only [Bool.not_eq_true', Bool.not_eq_false', decide_eq_true_eq, decide_eq_false_iff_not, Bool.not_false, Bool.not_true] at *; omega)
          | (exfalso; simp_all; first | done | omega)
    · obtain rfl : x = false := by rw [← hx]; exact chP_bad hq hr
      repeat' first | intro h1 | refine st (h := ok_not_dec2 rfl) ?_ | refine sd (h := ok_not_dec2 rfl) ?_ | refine st (h := ok_load_mapE (f := Value.int .i64) i hq rfl rfl rfl (by omega)) ?_ | refine sdl (h := ok_load_mapE (f := Value.int .i64) i hq rfl rfl rfl (by omega)) ?_ | refine st ?_ | refine st_call (HC) ?_ | refine sd_call (HC) ?_ | refine stRW [0] H ?_ | refine sdRW [0] H ?_ | refine Kc ?_ | refine Ka ?_ | refine Kb ?_ ?_ | refine J0 (id := 4) [0,0,3,7,15,31,63,127,127,511,127,127,3199,7295,16383,32767] 16 ?_ | fail
      all_goals first
        | rfl
        | (exfalso; omega)
        | (exfalso; simp only [Bool.not_eq_true', Bool.not_eq_false', decide_eq_true_eq, decide_eq_false_iff_not, Bool.not_false, Bool.not_true] at *; omega)
        | (exfalso; simp_all; first | done | omega)
  · obtain rfl : n = i := by omega
    rw [← hn] at g2
    by_cases h0 : n = 0
    · obtain rfl : C = [] := List.eq_nil_of_length_eq_zero (by omega)
      obtain rfl : x = false := by rw [← hx]; rfl
      repeat' first | intro h1 | refine st (h := ok_not_dec2 rfl) ?_ | refine sd (h := ok_not_dec2 rfl) ?_ | refine st ?_ | refine Kc ?_ | refine Ka ?_ | refine Kb ?_ ?_ | refine J0 (id := 4) [0,0,3,7,15,31,63,127,127,511,127,127,3199,7295,16383,32767] 16 ?_ | fail
      all_goals first
        | rfl
        | (show Value.bool _ = Value.bool _; congr 1; first | exact decide_eq_false (by omega) | exact decide_eq_true (by omega) | exact (decide_eq_false (by omega)).symm | exact (decide_eq_true (by omega)).symm | exact decide_eq_decide.2 (by omega))
        | (exfalso; omega)
        | (exfalso; simp only [Bool.not_eq_true', Bool.not_eq_false', decide_eq_true_eq, decide_eq_false_iff_not, Bool.not_false, Bool.not_true] at *; omega)
        | (exfalso; simp_all; first | done | omega)
    · obtain rfl : x = true := by rw [← hx]; exact chP_end g2 (by omega)
      repeat' first | intro h1 | refine st (h := ok_not_dec2 rfl) ?_ | refine sd (h := ok_not_dec2 rfl) ?_ | refine st ?_ | refine Kc ?_ | refine Ka ?_ | refine Kb ?_ ?_ | refine J0 (id := 4) [0,0,3,7,15,31,63,127,127,511,127,127,3199,7295,16383,32767] 16 ?_ | fail
      all_goals first
        | rfl
        | (show Value.bool _ = Value.bool _; congr 1; first | exact decide_eq_false (by omega) | exact decide_eq_true (by omega) | exact (decide_eq_false (by omega)).symm | exact (decide_eq_true (by omega)).symm | exact decide_eq_decide.2 (by omega))
        | (exfalso; omega)
        | (exfalso; simp only [Bool.not_eq_true', Bool.not_eq_false', decide_eq_true_eq, decide_eq_false_iff_not, Bool.not_false, Bool.not_true] at *; omega)
        | (exfalso; simp_all; first | done | omega)
set_option maxHeartbeats 1000000 in
theorem ac_hcheck (v f u : Int) (C : List Int) (n : Nat) (hn : C.length = n) (hb : n ≤ 9000000000000000000) (x : Int) (hx : chkH v f u C = x) : ACalls Tryz.prog 193 [.agg #[.int .i64 v, .int .i64 f, .int .i64 u, .slice (some ⟨0, 0, none⟩) n n]] [some ⟨List.map (Value.int .i64) C, false, 1⟩] (.int .i64 x) [none] := by
  obtain ⟨z, hz⟩ : ∃ z, chOK C = z := ⟨_, rfl⟩
  have H := ac_channels C n hn hb z hz
  unfold chkH at hx
  rw [hz] at hx
  by_cases hq : v < 0 ∨ 255 < v ∨ f < 0 ∨ u ≤ f ∨ 109951163 < u ∨ z = false
  · obtain rfl : x = 1 := by rw [← hx]; exact if_pos hq
    clear hx
    cases z
    · refine acalls_law Tryz.func193 rfl rfl rfl ?_
      repeat' first | intro h1 | refine st (h := ok_not_dec2 rfl) ?_ | refine st ?_ | refine stRW [0] H ?_ | refine sdRW [0] H ?_ | refine Kc ?_ | refine Ka ?_ | refine Kb ?_ ?_ | fail
      all_goals first
        | rfl
        | (exfalso; omega)
        | (exfalso; simp only [Bool.not_eq_true', Bool.not_eq_false', decide_eq_true_eq, decide_eq_false_iff_not, Bool.not_false, Bool.not_true] at *; omega)
        | (exfalso; simp_all; first | done | omega)
    · have hq : v < 0 ∨ 255 < v ∨ f < 0 ∨ u ≤ f ∨ 109951163 < u := by simpa using hq
      refine acalls_law Tryz.func193 rfl rfl rfl ?_
      repeat' first | intro h1 | refine st (h := ok_not_dec2 rfl) ?_ | refine st ?_ | refine stRW [0] H ?_ | refine sdRW [0] H ?_ | refine Kc ?_ | refine Ka ?_ | refine Kb ?_ ?_ | fail
      all_goals first
        | rfl
        | (exfalso; omega)
        | (exfalso; simp only [Bool.not_eq_true', Bool.not_eq_false', decide_eq_true_eq, decide_eq_false_iff_not, Bool.not_false, Bool.not_true] at *; omega)
        | (exfalso; simp_all; first | done | omega)
  · obtain rfl : x = 0 := by rw [← hx]; exact if_neg hq
    clear hx
    obtain rfl : z = true := by cases z; exact absurd (.inr (.inr (.inr (.inr (.inr rfl))))) hq; rfl
    have hq : ¬ (v < 0 ∨ 255 < v ∨ f < 0 ∨ u ≤ f ∨ 109951163 < u) := by simpa using hq
    refine acalls_law Tryz.func193 rfl rfl rfl ?_
    repeat' first | intro h1 | refine st (h := ok_not_dec2 rfl) ?_ | refine st ?_ | refine stRW [0] H ?_ | refine sdRW [0] H ?_ | refine Kc ?_ | refine Ka ?_ | refine Kb ?_ ?_ | fail
    all_goals first
      | rfl
      | (exfalso; omega)
      | (exfalso; simp only [Bool.not_eq_true', Bool.not_eq_false', decide_eq_true_eq, decide_eq_false_iff_not, Bool.not_false, Bool.not_true] at *; omega)
      | (exfalso; simp_all; first | done | omega)
set_option maxHeartbeats 1000000 in
theorem ac_rhcheck (v f u : Int) (C : List Int) (n : Nat) (hn : C.length = n) (hb : n ≤ 9000000000000000000) (x : Int) (hx : chkH v f u C = x) : ACalls Tryz.prog 194 [.agg #[.int .i64 v, .int .i64 f, .int .i64 u, .slice (some ⟨0, 0, none⟩) n n]] [some ⟨List.map (Value.int .i64) C, false, 1⟩] (.int .i64 x) [none] := by
  obtain ⟨z, hz⟩ : ∃ z, chOK C = z := ⟨_, rfl⟩
  have H := ac_different C n hn hb z hz
  unfold chkH at hx
  rw [hz] at hx
  by_cases hq : v < 0 ∨ 255 < v ∨ f < 0 ∨ u ≤ f ∨ 109951163 < u ∨ z = false
  · obtain rfl : x = 1 := by rw [← hx]; exact if_pos hq
    clear hx
    cases z
    · refine acalls_law Tryz.func194 rfl rfl rfl ?_
      repeat' first | intro h1 | refine st (h := ok_not_dec2 rfl) ?_ | refine st ?_ | refine stRW [0] H ?_ | refine sdRW [0] H ?_ | refine Kc ?_ | refine Ka ?_ | refine Kb ?_ ?_ | fail
      all_goals first
        | rfl
        | (exfalso; omega)
        | (exfalso; simp only [Bool.not_eq_true', Bool.not_eq_false', decide_eq_true_eq, decide_eq_false_iff_not, Bool.not_false, Bool.not_true] at *; omega)
        | (exfalso; simp_all; first | done | omega)
    · have hq : v < 0 ∨ 255 < v ∨ f < 0 ∨ u ≤ f ∨ 109951163 < u := by simpa using hq
      refine acalls_law Tryz.func194 rfl rfl rfl ?_
      repeat' first | intro h1 | refine st (h := ok_not_dec2 rfl) ?_ | refine st ?_ | refine stRW [0] H ?_ | refine sdRW [0] H ?_ | refine Kc ?_ | refine Ka ?_ | refine Kb ?_ ?_ | fail
      all_goals first
        | rfl
        | (exfalso; omega)
        | (exfalso; simp only [Bool.not_eq_true', Bool.not_eq_false', decide_eq_true_eq, decide_eq_false_iff_not, Bool.not_false, Bool.not_true] at *; omega)
        | (exfalso; simp_all; first | done | omega)
  · obtain rfl : x = 0 := by rw [← hx]; exact if_neg hq
    clear hx
    obtain rfl : z = true := by cases z; exact absurd (.inr (.inr (.inr (.inr (.inr rfl))))) hq; rfl
    have hq : ¬ (v < 0 ∨ 255 < v ∨ f < 0 ∨ u ≤ f ∨ 109951163 < u) := by simpa using hq
    refine acalls_law Tryz.func194 rfl rfl rfl ?_
    repeat' first | intro h1 | refine st (h := ok_not_dec2 rfl) ?_ | refine st ?_ | refine stRW [0] H ?_ | refine sdRW [0] H ?_ | refine Kc ?_ | refine Ka ?_ | refine Kb ?_ ?_ | fail
    all_goals first
      | rfl
      | (exfalso; omega)
      | (exfalso; simp only [Bool.not_eq_true', Bool.not_eq_false', decide_eq_true_eq, decide_eq_false_iff_not, Bool.not_false, Bool.not_true] at *; omega)
      | (exfalso; simp_all; first | done | omega)
/-- A hopping list is none. -/
def noneB (v f u : Int) (n : Nat) : Bool := decide (v = 0 ∧ f = 0 ∧ u = 0 ∧ (n : Int) = 0)
theorem ac_none (v f u : Int) (n : Nat) (x : Bool) (hx : noneB v f u n = x) : ACalls Tryz.prog 161 [.agg #[.int .i64 v, .int .i64 f, .int .i64 u, .slice (some ⟨0, 0, none⟩) n n]] [none] (.bool x) [none] := by
  unfold noneB at hx
  subst hx
  refine acalls_law Tryz.func161 rfl rfl rfl ?_
  repeat' first | intro h1 | refine st ?_ | refine Kc ?_ | refine Ka ?_ | refine Kb ?_ ?_ | fail
  all_goals first
    | rfl
    | (show Value.bool _ = Value.bool _; congr 1; first | exact decide_eq_false (by omega) | exact decide_eq_true (by omega) | exact (decide_eq_false (by omega)).symm | exact (decide_eq_true (by omega)).symm | exact decide_eq_decide.2 (by omega))
    | (exfalso; omega)
    | (exfalso; simp only [Bool.not_eq_true', Bool.not_eq_false', decide_eq_true_eq, decide_eq_false_iff_not, Bool.not_false, Bool.not_true] at *; omega)
    | (exfalso; simp_all; first | done | omega)
theorem ac_empty (v f u : Int) (n : Nat) (x : Bool) (hx : noneB v f u n = x) : ACalls Tryz.prog 164 [.agg #[.int .i64 v, .int .i64 f, .int .i64 u, .slice (some ⟨0, 0, none⟩) n n]] [none] (.bool x) [none] := by
  unfold noneB at hx
  subst hx
  refine acalls_law Tryz.func164 rfl rfl rfl ?_
  repeat' first | intro h1 | refine st ?_ | refine Kc ?_ | refine Ka ?_ | refine Kb ?_ ?_ | fail
  all_goals first
    | rfl
    | (show Value.bool _ = Value.bool _; congr 1; first | exact decide_eq_false (by omega) | exact decide_eq_true (by omega) | exact (decide_eq_false (by omega)).symm | exact (decide_eq_true (by omega)).symm | exact decide_eq_decide.2 (by omega))
    | (exfalso; omega)
    | (exfalso; simp only [Bool.not_eq_true', Bool.not_eq_false', decide_eq_true_eq, decide_eq_false_iff_not, Bool.not_false, Bool.not_true] at *; omega)
    | (exfalso; simp_all; first | done | omega)
/-- The error of an offer. -/
def chkO (root : Int) (run : ByteArray) (v f u : Int) (C : List Int) : Int := if root < 0 ∨ 32 ≤ root then 2 else if (8 : Int) < run.size then 8 else if noneB v f u C.length = false ∧ chkH v f u C ≠ 0 then 1 else 0
end Go.Proofs.YtdbcbclapipgdaaGreatDoor
