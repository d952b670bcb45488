/- Hopping lists: their channels; Hopping lists and offers, checked; Cells of tables: compared; Tables: cells are searched; Offers: written; Offers: hopping lists are read. -/
import Derived.Test.YtdbcbclapipgdaaGreatDoorVO
import Derived.Test.YtdbcbclapipgdaaGreatDoorJ
import Derived.Test.YtdbcbclapipgdaaGreatDoorC5
import Derived.Test.YtdbcbclapipgdaaGreatDoorC6
set_option linter.unusedVariables false
set_option linter.unusedSimpArgs false
namespace Go.Proofs.YtdbcbclapipgdaaGreatDoor
open Go Av
set_option maxRecDepth 20000
theorem ac_channel (c : Int) : ACalls Tryz.prog 216 [.int .i64 c] [] (.bool (decide (0 ≤ c ∧ c < 16))) [] := by
  refine acalls_pure Tryz.func216 rfl rfl rfl ?_
  repeat' first | intro h1 | refine st ?_ | refine Ja ?_ | refine Jb ?_ | refine Jh ?_ ?_ | refine run_nil ?_ | refine Jz ?_ | refine Jw ?_ | refine aw_ret ?_ | refine pp_ret ?_
  all_goals first
    | rfl
    | (show Value.bool _ = Value.bool _; congr 1; first | exact decide_eq_false (by omega) | exact decide_eq_true (by omega) | exact (decide_eq_false (by omega)).symm | exact (decide_eq_true (by omega)).symm | exact decide_eq_decide.2 (by omega))
    | (exfalso; omega)
    | (exfalso; simp only [Bool.not_eq_true', Bool.not_eq_false', decide_eq_true_eq, decide_eq_false_iff_not, Bool.not_false, Bool.not_true] at *; omega)
    | (exfalso; simp_all; first | done | omega)
set_option maxHeartbeats 2000000 in
theorem ac_channels (C : List Int) (n : Nat) (hn : C.length = n) (hb : n ≤ 9000000000000000000) (x : Bool) (hx : chOK C = x) : ACalls Tryz.prog 208 [.slice (some ⟨0, 0, none⟩) n n] [some ⟨List.map (Value.int .i64) C, false, 1⟩] (.bool x) [none] := by
  refine acalls_law Tryz.func208 rfl rfl rfl ?_
  repeat' first | refine st ?_ | refine run_nil ?_ | refine Jz ?_ | refine Jw ?_ | refine aw_block ?_
  refine aw_loopg
    (S := fun y : Og => [(0, .slice (some ⟨0, 0, none⟩) n n), (5, .slice (some ⟨0, 0, none⟩) n n), (6, .int .i64 n), (7, .int .i64 y.i)])
    (B := fun _ : Og => [some ⟨List.map (Value.int .i64) C, false, 1⟩])
    (R := fun y : Og => y.i ≤ n ∧ chP C y.i)
    (μ := fun y : Og => n - y.i) ⟨0⟩ (fitsD [0]) ⟨Nat.zero_le _, chP_zero C⟩ ?_
  rintro ⟨i⟩ ⟨g1, g2⟩
  dsimp only at *
  by_cases hi : i < n
  · obtain ⟨q, hq⟩ : ∃ q, C[i]? = some q := ⟨_, List.getElem?_eq_getElem (by omega)⟩
    obtain ⟨z, hz⟩ : ∃ z, hasI (C.take i) q = z := ⟨_, rfl⟩
    have H := ac_containsI C (C.take i) i (by omega) rfl (by omega) q z hz
    have HC := ac_channel q
    by_cases hr : 0 ≤ q ∧ q < 16
    · cases z
      · have hs := chP_step g2 hq hr hz
        repeat' first | refine st (h := ok_not_dec2 rfl) ?_ | refine st (h := ok_load_mapE (f := Value.int .i64) i hq rfl rfl rfl (by omega)) ?_ | refine st ?_ | refine st_call (HC) ?_ | refine stRW [0] H ?_ | refine Ja ?_ | refine Jf ?_ | refine run_nil ?_ | refine Jz ?_ | refine Jw ?_ | refine aw_block ?_ | refine Jr ?_ | refine Js ?_ | refine Jy ?_
        all_goals first | exact Exists.intro ⟨i + 1⟩ ⟨fitsD [0], ⟨hi, hs⟩, by dsimp only; omega⟩
      · obtain rfl : x = false := by rw [← hx]; exact chP_twice hq hz
        repeat' first | refine st (h := ok_not_dec2 rfl) ?_ | refine st (h := ok_load_mapE (f := Value.int .i64) i hq rfl rfl rfl (by omega)) ?_ | refine st ?_ | refine st_call (HC) ?_ | refine stRW [0] H ?_ | refine Ja ?_ | refine Jf ?_ | refine run_nil ?_ | refine Jz ?_ | refine Jw ?_ | refine aw_block ?_ | refine Jq ?_ | refine Js ?_ | refine Jy ?_ | refine aw_ret ?_ | refine pp_ret ?_
        all_goals first
          | rfl
          | (exfalso; omega)
          | (exfalso; simp only [Bool.not_eq_true', Bool.not_eq_false', decide_eq_true_eq, decide_eq_false_iff_not, Bool.not_false, Bool.not_true] at *; omega)
          | (exfalso; simp_all; first | done | omega)
    · obtain rfl : x = false := by rw [← hx]; exact chP_bad hq hr
      repeat' first | refine st (h := ok_not_dec2 rfl) ?_ | refine st (h := ok_load_mapE (f := Value.int .i64) i hq rfl rfl rfl (by omega)) ?_ | refine st ?_ | refine st_call (HC) ?_ | refine Jb ?_ | refine Jg ?_ | refine run_nil ?_ | refine Jz ?_ | refine Jw ?_ | refine aw_block ?_ | refine Jq ?_ | refine Js ?_ | refine Jy ?_ | refine aw_ret ?_ | refine pp_ret ?_
      all_goals first
        | rfl
        | (exfalso; omega)
        | (exfalso; simp only [Bool.not_eq_true', Bool.not_eq_false', decide_eq_true_eq, decide_eq_false_iff_not, Bool.not_false, Bool.not_true] at *; omega)
        | (exfalso; simp_all; first | done | omega)
  · obtain rfl : n = i := by omega
    rw [← hn] at g2
    by_cases h0 : n = 0
    · obtain rfl : C = [] := List.eq_nil_of_length_eq_zero (by omega)
      obtain rfl : x = false := by rw [← hx]; rfl
      repeat' first | refine st ?_ | refine run_nil ?_ | refine Jz ?_ | refine Jw ?_ | refine Jt ?_ | refine aw_exit ?_ | refine aw_ret ?_ | refine pp_ret ?_
      all_goals first
        | rfl
        | (show Value.bool _ = Value.bool _; congr 1; first | exact decide_eq_false (by omega) | exact decide_eq_true (by omega) | exact (decide_eq_false (by omega)).symm | exact (decide_eq_true (by omega)).symm | exact decide_eq_decide.2 (by omega))
        | (exfalso; omega)
        | (exfalso; simp only [Bool.not_eq_true', Bool.not_eq_false', decide_eq_true_eq, decide_eq_false_iff_not, Bool.not_false, Bool.not_true] at *; omega)
        | (exfalso; simp_all; first | done | omega)
    · obtain rfl : x = true := by rw [← hx]; exact chP_end g2 (by omega)
      repeat' first | refine st ?_ | refine run_nil ?_ | refine Jz ?_ | refine Jw ?_ | refine Jt ?_ | refine aw_exit ?_ | refine aw_ret ?_ | refine pp_ret ?_
      all_goals first
        | rfl
        | (show Value.bool _ = Value.bool _; congr 1; first | exact decide_eq_false (by omega) | exact decide_eq_true (by omega) | exact (decide_eq_false (by omega)).symm | exact (decide_eq_true (by omega)).symm | exact decide_eq_decide.2 (by omega))
        | (exfalso; omega)
        | (exfalso; simp only [Bool.not_eq_true', Bool.not_eq_false', decide_eq_true_eq, decide_eq_false_iff_not, Bool.not_false, Bool.not_true] at *; omega)
        | (exfalso; simp_all; first | done | omega)
set_option maxHeartbeats 1000000 in
theorem ac_hcheck (v f u : Int) (C : List Int) (n : Nat) (hn : C.length = n) (hb : n ≤ 9000000000000000000) (x : Int) (hx : chkH v f u C = x) : ACalls Tryz.prog 193 [.agg #[.int .i64 v, .int .i64 f, .int .i64 u, .slice (some ⟨0, 0, none⟩) n n]] [some ⟨List.map (Value.int .i64) C, false, 1⟩] (.int .i64 x) [none] := by
  obtain ⟨z, hz⟩ : ∃ z, chOK C = z := ⟨_, rfl⟩
  have H := ac_channels C n hn hb z hz
  unfold chkH at hx
  rw [hz] at hx
  by_cases hq : v < 0 ∨ 255 < v ∨ f < 0 ∨ u ≤ f ∨ 109951163 < u ∨ z = false
  · obtain rfl : x = 1 := by rw [← hx]; exact if_pos hq
    clear hx
    cases z
    · refine acalls_law Tryz.func193 rfl rfl rfl ?_
      repeat' first | intro h1 | refine st ?_ | refine stRW [0] H ?_ | refine stm ?_ | refine Ja ?_ | refine Jb ?_ | refine Ji ?_ ?_ | refine run_nil ?_ | refine Jz ?_ | refine Jw ?_ | refine Jq ?_ | refine aw_ret ?_ | refine pp_ret ?_
      all_goals first
        | rfl
        | (exfalso; omega)
        | (exfalso; simp only [Bool.not_eq_true', Bool.not_eq_false', decide_eq_true_eq, decide_eq_false_iff_not, Bool.not_false, Bool.not_true] at *; omega)
        | (exfalso; simp_all; first | done | omega)
    · have hq : v < 0 ∨ 255 < v ∨ f < 0 ∨ u ≤ f ∨ 109951163 < u := by simpa using hq
      refine acalls_law Tryz.func193 rfl rfl rfl ?_
      repeat' first | intro h1 | refine st ?_ | refine stm ?_ | refine Ja ?_ | refine Jb ?_ | refine Jg ?_ | refine Ji ?_ ?_ | refine run_nil ?_ | refine Jz ?_ | refine Jw ?_ | refine Jq ?_ | refine aw_ret ?_ | refine pp_ret ?_
      all_goals first
        | rfl
        | (exfalso; omega)
        | (exfalso; simp only [Bool.not_eq_true', Bool.not_eq_false', decide_eq_true_eq, decide_eq_false_iff_not, Bool.not_false, Bool.not_true] at *; omega)
        | (exfalso; simp_all; first | done | omega)
  · obtain rfl : x = 0 := by rw [← hx]; exact if_neg hq
    clear hx
    obtain rfl : z = true := by cases z; exact absurd (.inr (.inr (.inr (.inr (.inr rfl))))) hq; rfl
    have hq : ¬ (v < 0 ∨ 255 < v ∨ f < 0 ∨ u ≤ f ∨ 109951163 < u) := by simpa using hq
    refine acalls_law Tryz.func193 rfl rfl rfl ?_
    repeat' first | refine st ?_ | refine stRW [0] H ?_ | refine stm ?_ | refine Ja ?_ | refine Jf ?_ | refine run_nil ?_ | refine Jz ?_ | refine Jw ?_ | refine Jr ?_ | refine Jy ?_ | refine aw_ret ?_ | refine pp_ret ?_
    all_goals first
      | rfl
      | (exfalso; omega)
      | (exfalso; simp only [Bool.not_eq_true', Bool.not_eq_false', decide_eq_true_eq, decide_eq_false_iff_not, Bool.not_false, Bool.not_true] at *; omega)
      | (exfalso; simp_all; first | done | omega)
/-- A hopping list is none. -/
def noneB (v f u : Int) (n : Nat) : Bool := decide (v = 0 ∧ f = 0 ∧ u = 0 ∧ (n : Int) = 0)
theorem ac_none (v f u : Int) (n : Nat) (x : Bool) (hx : noneB v f u n = x) : ACalls Tryz.prog 161 [.agg #[.int .i64 v, .int .i64 f, .int .i64 u, .slice (some ⟨0, 0, none⟩) n n]] [none] (.bool x) [none] := by
  unfold noneB at hx
  subst hx
  refine acalls_law Tryz.func161 rfl rfl rfl ?_
  repeat' first | intro h1 | refine st ?_ | refine stm ?_ | refine Ja ?_ | refine Jb ?_ | refine Jh ?_ ?_ | refine run_nil ?_ | refine Jz ?_ | refine Jw ?_ | refine aw_ret ?_ | refine pp_ret ?_
  all_goals first
    | rfl
    | (show Value.bool _ = Value.bool _; congr 1; first | exact decide_eq_false (by omega) | exact decide_eq_true (by omega) | exact (decide_eq_false (by omega)).symm | exact (decide_eq_true (by omega)).symm | exact decide_eq_decide.2 (by omega))
    | (exfalso; omega)
    | (exfalso; simp only [Bool.not_eq_true', Bool.not_eq_false', decide_eq_true_eq, decide_eq_false_iff_not, Bool.not_false, Bool.not_true] at *; omega)
    | (exfalso; simp_all; first | done | omega)
/-- The error of an offer. -/
def chkO (root : Int) (run : ByteArray) (v f u : Int) (C : List Int) : Int := if root < 0 ∨ 32 ≤ root then 2 else if (8 : Int) < run.size then 8 else if noneB v f u C.length = false ∧ chkH v f u C ≠ 0 then 1 else 0
set_option maxHeartbeats 1000000 in
theorem ac_ocheck (root : Int) (op : Bool) (run : ByteArray) (v f u : Int) (C : List Int) (n : Nat) (hn : C.length = n) (hb : n ≤ 9000000000000000000) (x : Int) (hx : chkO root run v f u C = x) : ACalls Tryz.prog 162 [.agg #[.int .i64 root, .bool op, .string run, .int .i64 v, .int .i64 f, .int .i64 u, .slice (some ⟨0, 0, none⟩) n n]] [some ⟨List.map (Value.int .i64) C, false, 1⟩] (.int .i64 x) [none] := by
  obtain ⟨z, hz⟩ : ∃ z, noneB v f u n = z := ⟨_, rfl⟩
  obtain ⟨w, hw⟩ : ∃ w, chkH v f u C = w := ⟨_, rfl⟩
  have H1 := ac_none v f u n z hz
  have H2 := ac_hcheck v f u C n hn hb w hw
  unfold chkO at hx
  rw [hn, hz, hw] at hx
  by_cases h1 : root < 0 ∨ 32 ≤ root
  · obtain rfl : x = 2 := by rw [← hx]; exact if_pos h1
    clear hx
    refine acalls_law Tryz.func162 rfl rfl rfl ?_
    repeat' first | intro h1 | refine st ?_ | refine stm ?_ | refine Ja ?_ | refine Jb ?_ | refine Ji ?_ ?_ | refine run_nil ?_ | refine Jz ?_ | refine Jw ?_ | refine aw_block ?_ | refine Jq ?_ | refine Js ?_ | refine aw_ret ?_ | refine pp_ret ?_
    all_goals first
      | rfl
      | (exfalso; omega)
      | (exfalso; simp only [Bool.not_eq_true', Bool.not_eq_false', decide_eq_true_eq, decide_eq_false_iff_not, Bool.not_false, Bool.not_true] at *; omega)
      | (exfalso; simp_all; first | done | omega)
  · rw [if_neg h1] at hx
    by_cases h2 : (8 : Int) < run.size
    · obtain rfl : x = 8 := by rw [← hx]; exact if_pos h2
      clear hx
      refine acalls_law Tryz.func162 rfl rfl rfl ?_
      repeat' first | refine st ?_ | refine stm ?_ | refine Ja ?_ | refine Jf ?_ | refine run_nil ?_ | refine Jz ?_ | refine Jw ?_ | refine aw_block ?_ | refine Js ?_ | refine Jt ?_ | refine aw_ret ?_ | refine pp_ret ?_
      all_goals first
        | rfl
        | (exfalso; omega)
        | (exfalso; simp only [Bool.not_eq_true', Bool.not_eq_false', decide_eq_true_eq, decide_eq_false_iff_not, Bool.not_false, Bool.not_true] at *; omega)
        | (exfalso; simp_all; first | done | omega)
    · rw [if_neg h2] at hx
      cases z
      · by_cases h3 : w = 0
        · obtain rfl : x = 0 := by rw [← hx]; simp [h3]
          clear hx
          refine acalls_law Tryz.func162 rfl rfl rfl ?_
          repeat' first | refine st ?_ | refine stRW [0] H1 ?_ | refine stRW [0] H2 ?_ | refine stm ?_ | refine Ja ?_ | refine Jf ?_ | refine run_nil ?_ | refine Jz ?_ | refine Jw ?_ | refine aw_block ?_ | refine Jt ?_ | refine Jy ?_ | refine aw_ret ?_ | refine pp_ret ?_
          all_goals first
            | rfl
            | (exfalso; omega)
            | (exfalso; simp only [Bool.not_eq_true', Bool.not_eq_false', decide_eq_true_eq, decide_eq_false_iff_not, Bool.not_false, Bool.not_true] at *; omega)
            | (exfalso; simp_all; first | done | omega)
        · obtain rfl : x = 1 := by rw [← hx]; simp [h3]
          clear hx
          refine acalls_law Tryz.func162 rfl rfl rfl ?_
          repeat' first | refine st ?_ | refine stRW [0] H1 ?_ | refine stRW [0] H2 ?_ | refine stm ?_ | refine Ja ?_ | refine Jf ?_ | refine run_nil ?_ | refine Jz ?_ | refine Jw ?_ | refine aw_block ?_ | refine Js ?_ | refine Jt ?_ | refine aw_ret ?_ | refine pp_ret ?_
          all_goals first
            | rfl
            | (exfalso; omega)
            | (exfalso; simp only [Bool.not_eq_true', Bool.not_eq_false', decide_eq_true_eq, decide_eq_false_iff_not, Bool.not_false, Bool.not_true] at *; omega)
            | (exfalso; simp_all; first | done | omega)
      · obtain rfl : x = 0 := by rw [← hx]; simp
        clear hx
        refine acalls_law Tryz.func162 rfl rfl rfl ?_
        repeat' first | refine st ?_ | refine stRW [0] H1 ?_ | refine stm ?_ | refine Ja ?_ | refine Jb ?_ | refine Jf ?_ | refine run_nil ?_ | refine Jz ?_ | refine Jw ?_ | refine aw_block ?_ | refine Jr ?_ | refine Jt ?_ | refine Jy ?_ | refine aw_ret ?_ | refine pp_ret ?_
        all_goals first
          | rfl
          | (exfalso; omega)
          | (exfalso; simp only [Bool.not_eq_true', Bool.not_eq_false', decide_eq_true_eq, decide_eq_false_iff_not, Bool.not_false, Bool.not_true] at *; omega)
          | (exfalso; simp_all; first | done | omega)
/-- A cell of a table: slot, offset, kind, send, peer, flow. -/
abbrev Ce := Int × Int × Int × Bool × Int × Int × Unit
/-- The slots rise. -/
def mono (C : List Ce) : Prop := ∀ (i j : Nat) (a b : Ce), i ≤ j → C[i]? = some a → C[j]? = some b → a.1 ≤ b.1
/-- The bits of an offer. -/
def ofB (root : Int) (op : Bool) (run : ByteArray) (v f u : Int) (C : List Int) : List Int :=
  bitsOf 5 root ++ bitsOf 1 (if op = true then 1 else 0) ++ (bitsOf 4 run.size ++ strBits run run.size) ++ bitsOf 1 (if (!noneB v f u C.length) = true then 1 else 0) ++ (if noneB v f u C.length = true then [] else bitsOf 8 v ++ bitsOf 27 f ++ bitsOf 27 u ++ bitsOf 4 (C.length - 1) ++ C.flatMap (bitsOf 4))
theorem wd8 : wdth 8 = 4 := by decide +kernel
theorem ch_len (C : List Int) : (C.flatMap (bitsOf 4)).length = 4 * C.length := by
  induction C with
  | nil => rfl
  | cons a C ih => rw [List.flatMap_cons, List.length_append, ih, bitsOf_len, List.length_cons]; omega
theorem ch_snoc {C : List Int} {i : Nat} {c : Int} (h : C[i]? = some c) (xs : List Int) : xs ++ (C.take i).flatMap (bitsOf 4) ++ bitsOf 4 c = xs ++ (C.take (i + 1)).flatMap (bitsOf 4) := by
  rw [List.take_add_one, h, List.flatMap_append, List.append_assoc]
  simp
theorem ofB_01 (root : Int) (op : Bool) (run : ByteArray) (v f u : Int) (C : List Int) : ∀ b ∈ ofB root op run v f u C, b = 0 ∨ b = 1 := fun b hb => by
  have hc : ∀ b ∈ C.flatMap (bitsOf 4), b = 0 ∨ b = 1 := fun b hb => by
    obtain ⟨c, _, h⟩ := List.mem_flatMap.1 hb
    exact bitsOf_01 _ _ b h
  unfold ofB at hb
  simp only [List.mem_append] at hb
  rcases hb with (((hb | hb) | hb) | hb) | hb
  · exact bitsOf_01 _ _ b hb
  · exact bitsOf_01 _ _ b hb
  · rcases hb with hb | hb
    · exact bitsOf_01 _ _ b hb
    · exact strBits_01 _ _ b hb
  · exact bitsOf_01 _ _ b hb
  · split at hb
    · simp at hb
    · simp only [List.mem_append] at hb
      rcases hb with (((hb | hb) | hb) | hb) | hb
      · exact bitsOf_01 _ _ b hb
      · exact bitsOf_01 _ _ b hb
      · exact bitsOf_01 _ _ b hb
      · exact bitsOf_01 _ _ b hb
      · exact hc b hb
theorem chkO_zero {root : Int} {run : ByteArray} {v f u : Int} {C : List Int} (h : chkO root run v f u C = 0) : (0 ≤ root ∧ root < 32) ∧ run.size ≤ 8 ∧ (noneB v f u C.length = true ∨ chkH v f u C = 0) := by
  unfold chkO at h
  by_cases h1 : root < 0 ∨ 32 ≤ root
  · rw [if_pos h1] at h; cases h
  · rw [if_neg h1] at h
    by_cases h2 : (8 : Int) < run.size
    · rw [if_pos h2] at h; cases h
    · rw [if_neg h2] at h
      refine ⟨by omega, by omega, ?_⟩
      cases hz : noneB v f u C.length
      · right
        by_cases h3 : chkH v f u C = 0
        · exact h3
        · rw [if_pos ⟨hz, h3⟩] at h; cases h
      · exact .inl rfl
structure Eg where
  i : Nat
  bs : List Int
set_option maxHeartbeats 1000000 in
theorem ac_oencodeE (root : Int) (op : Bool) (run : ByteArray) (v f u : Int) (C : List Int) (n : Nat) (hn : C.length = n) (hb : n ≤ 9000000000000000000) (x : Int) (hx : chkO root run v f u C = x) (h0 : x ≠ 0) : ACalls Tryz.prog 139 [.agg #[.int .i64 root, .bool op, .string run, .int .i64 v, .int .i64 f, .int .i64 u, .slice (some ⟨0, 0, none⟩) n n]] [some ⟨List.map (Value.int .i64) C, false, 1⟩] (.tuple #[.string .empty, .int .i64 x]) [none] := by
  have H := ac_ocheck root op run v f u C n hn hb x hx
  refine acalls_law Tryz.func139 rfl rfl rfl ?_
  repeat' first | refine st ?_ | refine stRW [0] H ?_ | refine stm ?_ | refine run_nil ?_ | refine Jz ?_ | refine Jw ?_ | refine Js ?_ | refine aw_ret ?_ | refine pp_ret ?_
  all_goals first
    | rfl
    | (exfalso; omega)
    | (exfalso; simp only [Bool.not_eq_true', Bool.not_eq_false', decide_eq_true_eq, decide_eq_false_iff_not, Bool.not_false, Bool.not_true] at *; omega)
    | (exfalso; simp_all; first | done | omega)
set_option maxHeartbeats 4000000 in
theorem ac_oencode0 (root : Int) (op : Bool) (run : ByteArray) (v f u : Int) (C : List Int) (n : Nat) (hn : C.length = n) (hb : n ≤ 9000000000000000000) (hx : chkO root run v f u C = 0) : ACalls Tryz.prog 139 [.agg #[.int .i64 root, .bool op, .string run, .int .i64 v, .int .i64 f, .int .i64 u, .slice (some ⟨0, 0, none⟩) n n]] [some ⟨List.map (Value.int .i64) C, false, 1⟩] (.tuple #[.string (pkB (ofB root op run v f u C)), .int .i64 0]) [none] := by
  have H := ac_ocheck root op run v f u C n hn hb 0 hx
  obtain ⟨hr, hs, hc⟩ := chkO_zero hx
  obtain ⟨z, hz⟩ : ∃ z, noneB v f u n = z := ⟨_, rfl⟩
  have HN := ac_none v f u n z hz
  obtain ⟨b0, hb0⟩ : ∃ z : List Int, [] = z := ⟨_, rfl⟩
  have lb0 : b0.length = 0 := by rw [← hb0]; rfl
  have C0 := ac_newW0 b0 hb0
  obtain ⟨b1, hb1⟩ : ∃ z, b0 ++ bitsOf 5 root = z := ⟨_, rfl⟩
  have lb1 : b1.length = 5 := by rw [← hb1, List.length_append, bitsOf_len, lb0]
  have C1 := ac_uns0 5 root b0 b1 (by decide) (by rw [show ((2 : Int) ^ (5 : Int).toNat) = 32 from rfl]; omega) (by omega) hb1
  obtain ⟨b2, hb2⟩ : ∃ z, b1 ++ bitsOf 1 (if op = true then 1 else 0) = z := ⟨_, rfl⟩
  have lb2 : b2.length = 6 := by rw [← hb2, List.length_append, bitsOf_len, lb1]
  have C2 := ac_flag0 op b1 b2 (by omega) hb2
  obtain ⟨b3, hb3⟩ : ∃ z, b2 ++ bitsOf (wdth 8).toNat run.size ++ strBits run run.size = z := ⟨_, rfl⟩
  have lb3 : b3.length = 10 + 8 * run.size := by rw [← hb3, List.length_append, List.length_append, bitsOf_len, strBits_len, lb2, wd8]; rfl
  have C3 := ac_text0 8 run b2 b3 (by decide) (by omega) (by rw [wd8]; omega) hb3
  obtain ⟨b4, hb4⟩ : ∃ q, b3 ++ bitsOf 1 (if (!z) = true then 1 else 0) = q := ⟨_, rfl⟩
  have lb4 : b4.length = b3.length + 1 := by rw [← hb4, List.length_append, bitsOf_len]
  have C4 := ac_flag0 (!z) b3 b4 (by omega) hb4
  have h01 := ofB_01 root op run v f u C
  rw [hn, hz] at hc
  cases z
  · have hh : chkH v f u C = 0 := by rcases hc with hc | hc; cases hc; exact hc
    obtain ⟨q1, q2, q3, q4, q5⟩ := chkH_0 hh
    obtain ⟨n1, n2, n3⟩ := chOK_len q5
    rw [hn] at n1 n2
    obtain ⟨b5, hb5⟩ : ∃ z, b4 ++ bitsOf 8 v = z := ⟨_, rfl⟩
    have lb5 : b5.length = b4.length + 8 := by rw [← hb5, List.length_append, bitsOf_len]
    have C5 := ac_uns0 8 v b4 b5 (by decide) (by rw [show ((2 : Int) ^ (8 : Int).toNat) = 256 from rfl]; omega) (by omega) hb5
    obtain ⟨b6, hb6⟩ : ∃ z, b5 ++ bitsOf 27 f = z := ⟨_, rfl⟩
    have lb6 : b6.length = b5.length + 27 := by rw [← hb6, List.length_append, bitsOf_len]
    have C6 := ac_uns0 27 f b5 b6 (by decide) (by rw [show ((2 : Int) ^ (27 : Int).toNat) = 134217728 from rfl]; omega) (by omega) hb6
    obtain ⟨b7, hb7⟩ : ∃ z, b6 ++ bitsOf 27 u = z := ⟨_, rfl⟩
    have lb7 : b7.length = b6.length + 27 := by rw [← hb7, List.length_append, bitsOf_len]
    have C7 := ac_uns0 27 u b6 b7 (by decide) (by rw [show ((2 : Int) ^ (27 : Int).toNat) = 134217728 from rfl]; omega) (by omega) hb7
    obtain ⟨b8, hb8⟩ : ∃ z, b7 ++ bitsOf 4 ((n : Int) - 1) = z := ⟨_, rfl⟩
    have lb8 : b8.length = b7.length + 4 := by rw [← hb8, List.length_append, bitsOf_len]
    have C8 := ac_uns0 4 ((n : Int) - 1) b7 b8 (by decide) (by rw [show ((2 : Int) ^ (4 : Int).toNat) = 16 from rfl]; omega) (by omega) hb8
    have hm : ofB root op run v f u C = b8 ++ C.flatMap (bitsOf 4) := by
      unfold ofB
      rw [hn, hz, if_neg (show ¬ false = true by decide), ← hb8, ← hb7, ← hb6, ← hb5, ← hb4, ← hb3, ← hb2, ← hb1, ← hb0, wd8]
      simp only [List.append_assoc, List.nil_append]
      rfl
    rw [hm] at h01 ⊢
    clear hm hb7 hb6 hb5 hb4 hb3 hb2 hb1 hb0 hb8 hz hx hh hc q5
    obtain ⟨res, hres⟩ : ∃ res, pkB (b8 ++ C.flatMap (bitsOf 4)) = res := ⟨_, rfl⟩
    rw [hres]
    refine acalls_law Tryz.func139 rfl rfl rfl ?_
    repeat' first | refine st ?_ | refine stRW [0] H ?_ | refine stRW [0] HN ?_ | refine stMW [] C0 ?_ | refine stMW [2, 3] C1 ?_ | refine stMW [2, 4] C2 ?_ | refine stMW [2, 5] C3 ?_ | refine stMW [2, 6] C4 ?_ | refine stMW [2, 7] C5 ?_ | refine stMW [2, 8] C6 ?_ | refine stMW [2, 9] C7 ?_ | refine stMW [2, 10] C8 ?_ | refine stm ?_ | refine run_nil ?_ | refine Jz ?_ | refine Jw ?_ | refine aw_block ?_ | refine Jq ?_ | refine Jr ?_ | refine Jy ?_
    refine aw_loopg
      (S := fun y : Eg => [(1, .pointer (some ⟨1, 0, none⟩)), (5, .pointer (some ⟨2, 0, none⟩)), (60, .slice (some ⟨0, 0, none⟩) n n), (61, .int .i64 n), (62, .int .i64 y.i)])
      (B := fun y : Eg => [some ⟨List.map (Value.int .i64) C, false, 1⟩, some ⟨[.int .i64 root, .bool op, .string run, .int .i64 v, .int .i64 f, .int .i64 u, .slice (some ⟨0, 0, none⟩) n n], true, 1⟩, some ⟨[.slice (some ⟨3, 0, none⟩) (pack y.bs).length (pack y.bs).length, .int .i64 (y.bs.length : Int), .int .i64 0], true, 1⟩, some ⟨List.map (Value.int .u8) (pack y.bs), true, 1⟩])
      (R := fun y : Eg => y.i ≤ n ∧ b8 ++ (C.take y.i).flatMap (bitsOf 4) = y.bs)
      (μ := fun y : Eg => n - y.i) ⟨0, b8⟩ (fitsD [0, 1, 2, 11]) ⟨Nat.zero_le _, by simp⟩ ?_
    rintro ⟨i, bs⟩ ⟨g1, g2⟩
    dsimp only at *
    have lbs : bs.length = b8.length + 4 * i := by rw [← g2, List.length_append, ch_len, List.length_take]; omega
    by_cases hi : i < n
    · obtain ⟨q, hq⟩ : ∃ q, C[i]? = some q := ⟨_, List.getElem?_eq_getElem (by omega)⟩
      have hqr := n3 q (List.mem_of_getElem? hq)
      obtain ⟨bs', hbs'⟩ : ∃ z, bs ++ bitsOf 4 q = z := ⟨_, rfl⟩
      have hst : b8 ++ (C.take (i + 1)).flatMap (bitsOf 4) = bs' := by rw [← hbs', ← g2, ch_snoc hq]
      have C9 := ac_uns0 4 q bs bs' (by decide) (by rw [show ((2 : Int) ^ (4 : Int).toNat) = 16 from rfl]; omega) (by omega) hbs'
      repeat' first | refine st (h := ok_load_mapE (f := Value.int .i64) i hq rfl rfl rfl (by omega)) ?_ | refine st ?_ | refine stMW [2, 3] C9 ?_ | refine run_nil ?_ | refine Jz ?_ | refine Jw ?_ | refine aw_block ?_ | refine Js ?_ | refine Jy ?_
      all_goals first | exact Exists.intro ⟨i + 1, bs'⟩ ⟨fitsD [0, 1, 2, 4], ⟨hi, hst⟩, by dsimp only; omega⟩
    · obtain rfl : n = i := by omega
      have he : bs = b8 ++ C.flatMap (bitsOf 4) := by rw [← g2, ← hn, List.take_length]
      have CBy := ac_bytes0 bs
      rw [he, hres] at CBy
      rw [← he] at CBy
      repeat' first | refine st ?_ | refine stRW [2, 3] CBy ?_ | refine run_nil ?_ | refine Jz ?_ | refine Jw ?_ | refine Jt ?_ | refine aw_exit ?_ | refine aw_ret ?_ | refine pp_ret ?_
      all_goals first
        | rfl
        | (exfalso; omega)
        | (exfalso; simp only [Bool.not_eq_true', Bool.not_eq_false', decide_eq_true_eq, decide_eq_false_iff_not, Bool.not_false, Bool.not_true] at *; omega)
        | (exfalso; simp_all; first | done | omega)
  · have hm : ofB root op run v f u C = b4 := by
      unfold ofB
      rw [hn, hz, if_pos rfl, ← hb4, ← hb3, ← hb2, ← hb1, ← hb0, wd8]
      simp only [List.append_assoc, List.nil_append, List.append_nil]
      rfl
    rw [hm] at h01 ⊢
    have CBy := ac_bytes0 b4
    clear hm hb4 hb3 hb2 hb1 hb0 hz hx hc
    generalize pkB b4 = res at CBy ⊢
    refine acalls_law Tryz.func139 rfl rfl rfl ?_
    repeat' first | refine st ?_ | refine stRW [0] H ?_ | refine stRW [0] HN ?_ | refine stMW [] C0 ?_ | refine stMW [2, 3] C1 ?_ | refine stMW [2, 4] C2 ?_ | refine stMW [2, 5] C3 ?_ | refine stMW [2, 6] C4 ?_ | refine stRW [2, 7] CBy ?_ | refine stm ?_ | refine run_nil ?_ | refine Jz ?_ | refine Jw ?_ | refine Jr ?_ | refine Jy ?_ | refine aw_ret ?_ | refine pp_ret ?_
    all_goals first
      | rfl
      | (exfalso; omega)
      | (exfalso; simp only [Bool.not_eq_true', Bool.not_eq_false', decide_eq_true_eq, decide_eq_false_iff_not, Bool.not_false, Bool.not_true] at *; omega)
      | (exfalso; simp_all; first | done | omega)
def u_ (d : ByteArray) (w : Int) (p : Nat × Int) : Int × Nat × Int := unsR d p.1 p.2 w
def f_ (d : ByteArray) (p : Nat × Int) : Bool × Nat × Int := flgR d p.1 p.2
def t_ (d : ByteArray) (m : Int) (p : Nat × Int) : ByteArray × Nat × Int := txtR d p.1 p.2 m
/-- So many channels, read. -/
def chR (d : ByteArray) (a : Nat) (e : Int) : Nat → List Int × Nat × Int
  | 0 => ([], a, e)
  | k + 1 => ((chR d a e k).1 ++ [(unsR d (chR d a e k).2.1 (chR d a e k).2.2 4).1], (unsR d (chR d a e k).2.1 (chR d a e k).2.2 4).2)
theorem chR_succ {d : ByteArray} {a a0 a1 : Nat} {e e0 e1 v1 : Int} {k : Nat} {L : List Int} (h : chR d a e k = (L, a0, e0)) (h1 : unsR d a0 e0 4 = (v1, a1, e1)) : chR d a e (k + 1) = (L ++ [v1], a1, e1) := by
  rw [chR, h]
  dsimp only
  rw [h1]
theorem unsR_le {d : ByteArray} {a a' : Nat} {e e' w v : Int} (h : unsR d a e w = (v, a', e')) (ha : a ≤ 8 * d.size) (hw : 1 ≤ w ∧ w ≤ 63) : a' ≤ 8 * d.size := by
  unfold unsR at h
  rcases fieldR_cases h with ⟨_, _, rfl, _⟩ | ⟨_, _, _, rfl, _, h6⟩ <;> omega
theorem flgR_le {d : ByteArray} {a a' : Nat} {e e' : Int} {v : Bool} (h : flgR d a e = (v, a', e')) (ha : a ≤ 8 * d.size) : a' ≤ 8 * d.size := by
  unfold flgR at h
  obtain ⟨v1, a1, e1, h1⟩ : ∃ v1 a1 e1, fieldR d a e true 1 = (v1, a1, e1) := ⟨_, _, _, rfl⟩
  rw [h1] at h
  simp only [Prod.mk.injEq] at h
  obtain ⟨_, rfl, rfl⟩ := h
  rcases fieldR_cases h1 with ⟨_, _, rfl, _⟩ | ⟨_, _, _, rfl, _, h6⟩ <;> omega
theorem unsR_rng {d : ByteArray} {a a' : Nat} {e e' w v : Int} (h : unsR d a e w = (v, a', e')) (hw : 1 ≤ w ∧ w ≤ 63) : 0 ≤ v ∧ v < 2 ^ w.toNat := by
  unfold unsR at h
  rcases fieldR_cases h with ⟨_, rfl, _, _⟩ | ⟨_, _, _, _, rfl, _⟩
  · exact ⟨Int.le_refl _, Int.pow_pos (by decide)⟩
  · exact rdN_bd d a w.toNat
theorem txtR_le {d : ByteArray} {a a' : Nat} {e e' m : Int} {t : ByteArray} (h : txtR d a e m = (t, a', e')) (ha : a ≤ 8 * d.size) (hm : 1 ≤ m ∧ m ≤ 4095) : a' ≤ 8 * d.size := by
  obtain ⟨v1, a1, e1, h1⟩ : ∃ v1 a1 e1, fieldR d a e (decide (1 ≤ m ∧ m ≤ 4095)) (wdth m) = (v1, a1, e1) := ⟨_, _, _, rfl⟩
  have hw := wdth_bd m (by omega)
  have hle : a1 ≤ 8 * d.size := by
    rw [decide_eq_true hm] at h1
    rcases fieldR_cases h1 with ⟨_, _, rfl, _⟩ | ⟨_, _, _, rfl, _, h6⟩ <;> omega
  unfold txtR at h
  rw [h1] at h
  dsimp only at h
  split at h
  · simp only [Prod.mk.injEq] at h
    omega
  · split at h
    · simp only [Prod.mk.injEq] at h; omega
    · split at h
      · simp only [Prod.mk.injEq] at h; omega
      · simp only [Prod.mk.injEq] at h; omega
theorem chR_le {d : ByteArray} {a a' : Nat} {e e' : Int} {k : Nat} {L : List Int} (h : chR d a e k = (L, a', e')) (ha : a ≤ 8 * d.size) : a' ≤ 8 * d.size := by
  induction k generalizing L a' e' with
  | zero => simp only [chR, Prod.mk.injEq] at h; omega
  | succ k ih =>
    obtain ⟨L0, a0, e0, h0⟩ : ∃ x y z, chR d a e k = (x, y, z) := ⟨_, _, _, rfl⟩
    obtain ⟨v1, a1, e1, h1⟩ : ∃ x y z, unsR d a0 e0 4 = (x, y, z) := ⟨_, _, _, rfl⟩
    rw [chR_succ h0 h1] at h
    simp only [Prod.mk.injEq] at h
    obtain ⟨_, rfl, _⟩ := h
    exact unsR_le h1 (ih h0) (by decide)
theorem chR_len {d : ByteArray} {a a' : Nat} {e e' : Int} {k : Nat} {L : List Int} (h : chR d a e k = (L, a', e')) : L.length = k := by
  induction k generalizing L a' e' with
  | zero => simp only [chR, Prod.mk.injEq] at h; rw [← h.1]; rfl
  | succ k ih =>
    obtain ⟨L0, a0, e0, h0⟩ : ∃ x y z, chR d a e k = (x, y, z) := ⟨_, _, _, rfl⟩
    obtain ⟨v1, a1, e1, h1⟩ : ∃ x y z, unsR d a0 e0 4 = (x, y, z) := ⟨_, _, _, rfl⟩
    rw [chR_succ h0 h1] at h
    simp only [Prod.mk.injEq] at h
    obtain ⟨rfl, _⟩ := h
    rw [List.length_append, ih h0]; rfl
/-- A hopping list, read. -/
def lsH (d : ByteArray) (p : Nat × Int) : (Int × Int × Int × List Int) × Nat × Int :=
  let x1 := u_ d 8 p
  let x2 := u_ d 27 x1.2
  let x3 := u_ d 27 x2.2
  let x4 := u_ d 4 x3.2
  let x5 := chR d x4.2.1 x4.2.2 (x4.1 + 1).toNat
  ((x1.1, x2.1, x3.1, x5.1), x5.2)
abbrev OfT := Int × Bool × ByteArray × Int × Int × Int × List Int
def of0 : OfT := (0, false, ⟨#[]⟩, 0, 0, 0, [])
def chkOf (m : OfT) : Int := chkO m.1 m.2.2.1 m.2.2.2.1 m.2.2.2.2.1 m.2.2.2.2.2.1 m.2.2.2.2.2.2
/-- An offer, read. -/
def rdO (d : ByteArray) : OfT × Nat × Int :=
  let x1 := u_ d 5 (0, 0)
  let x2 := f_ d x1.2
  let x3 := t_ d 8 x2.2
  let x4 := f_ d x3.2
  if x4.1 = true then ((x1.1, x2.1, x3.1, (lsH d x4.2).1), (lsH d x4.2).2) else ((x1.1, x2.1, x3.1, 0, 0, 0, []), x4.2)
/-- What Decode returns. -/
def decO (d : ByteArray) : OfT × Int := if closeR d (rdO d).2.1 (rdO d).2.2 ≠ 0 then (of0, 10) else if chkOf (rdO d).1 ≠ 0 then (of0, 10) else ((rdO d).1, 0)
theorem dec_bad1 {d : ByteArray} {m : OfT} {a : Nat} {e : Int} (h : rdO d = (m, a, e)) (hc : closeR d a e ≠ 0) : decO d = (of0, 10) := by
  unfold decO; rw [h]; exact if_pos hc
theorem dec_bad2 {d : ByteArray} {m : OfT} {a : Nat} {e : Int} (h : rdO d = (m, a, e)) (hc : closeR d a e = 0) (hk : chkOf m ≠ 0) : decO d = (of0, 10) := by
  unfold decO; rw [h]; dsimp only; rw [if_neg (by simpa using hc), if_pos hk]
theorem dec_good {d : ByteArray} {m : OfT} {a : Nat} {e : Int} (h : rdO d = (m, a, e)) (hc : closeR d a e = 0) (hk : chkOf m = 0) : decO d = (m, 0) := by
  unfold decO; rw [h]; dsimp only; rw [if_neg (by simpa using hc), if_neg (by simpa using hk)]
structure Cg where
  i : Nat
  L : List Int
  a : Nat
  e : Int
  d2 : ByteArray
  a2 : Int
end Go.Proofs.YtdbcbclapipgdaaGreatDoor
