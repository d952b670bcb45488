/- Hopping lists and offers, checked; Cells of tables: compared; Tables: cells are searched; Offers: written; Offers: written by the reference; Offers: hopping lists are read. -/
import Derived.Test.YtdbcbclapipgdaaGreatDoorVO
import Derived.Test.YtdbcbclapipgdaaGreatDoorVN
import Derived.Test.YtdbcbclapipgdaaGreatDoorJ
import Derived.Test.YtdbcbclapipgdaaGreatDoorC9
import Derived.Test.YtdbcbclapipgdaaGreatDoorC11
set_option linter.unusedVariables false
set_option linter.unusedSimpArgs false
namespace Go.Proofs.YtdbcbclapipgdaaGreatDoor
open Go Av
set_option maxRecDepth 20000
set_option maxHeartbeats 1000000 in
theorem ac_ocheck (root : Int) (op : Bool) (run : ByteArray) (v f u : Int) (C : List Int) (n : Nat) (hn : C.length = n) (hb : n ≤ 9000000000000000000) (x : Int) (hx : chkO root run v f u C = x) : ACalls Tryz.prog 162 [.agg #[.int .i64 root, .bool op, .string run, .int .i64 v, .int .i64 f, .int .i64 u, .slice (some ⟨0, 0, none⟩) n n]] [some ⟨List.map (Value.int .i64) C, false, 1⟩] (.int .i64 x) [none] := by
  obtain ⟨z, hz⟩ : ∃ z, noneB v f u n = z := ⟨_, rfl⟩
  obtain ⟨w, hw⟩ : ∃ w, chkH v f u C = w := ⟨_, rfl⟩
  have H1 := ac_none v f u n z hz
  have H2 := ac_hcheck v f u C n hn hb w hw
  unfold chkO at hx
  rw [hn, hz, hw] at hx
  by_cases h1 : root < 0 ∨ 32 ≤ root
  · obtain rfl : x = 2 := by rw [← hx]; exact if_pos h1
    clear hx
    refine acalls_law Tryz.func162 rfl rfl rfl ?_
    repeat' first | intro h1 | refine st (h := ok_not_dec2 rfl) ?_ | refine st ?_ | refine stRW [0] H1 ?_ | refine stRW [0] H2 ?_ | refine sdRW [0] H1 ?_ | refine sdRW [0] H2 ?_ | refine Kc ?_ | refine Ka ?_ | refine Kb ?_ ?_ | fail
    all_goals first
      | rfl
      | (exfalso; omega)
      | (exfalso; simp only [Bool.not_eq_true', Bool.not_eq_false', decide_eq_true_eq, decide_eq_false_iff_not, Bool.not_false, Bool.not_true] at *; omega)
      | (exfalso; simp_all; first | done | omega)
  · rw [if_neg h1] at hx
    by_cases h2 : (8 : Int) < run.size
    · obtain rfl : x = 8 := by rw [← hx]; exact if_pos h2
      clear hx
      refine acalls_law Tryz.func162 rfl rfl rfl ?_
      repeat' first | intro h1 | refine st (h := ok_not_dec2 rfl) ?_ | refine st ?_ | refine stRW [0] H1 ?_ | refine stRW [0] H2 ?_ | refine sdRW [0] H1 ?_ | refine sdRW [0] H2 ?_ | refine Kc ?_ | refine Ka ?_ | refine Kb ?_ ?_ | fail
      all_goals first
        | rfl
        | (exfalso; omega)
        | (exfalso; simp only [Bool.not_eq_true', Bool.not_eq_false', decide_eq_true_eq, decide_eq_false_iff_not, Bool.not_false, Bool.not_true] at *; omega)
        | (exfalso; simp_all; first | done | omega)
    · rw [if_neg h2] at hx
      cases z
      · by_cases h3 : w = 0
        · obtain rfl : x = 0 := by rw [← hx]; simp [h3]
          clear hx
          refine acalls_law Tryz.func162 rfl rfl rfl ?_
          repeat' first | intro h1 | refine st (h := ok_not_dec2 rfl) ?_ | refine st ?_ | refine stRW [0] H1 ?_ | refine stRW [0] H2 ?_ | refine sdRW [0] H1 ?_ | refine sdRW [0] H2 ?_ | refine Kc ?_ | refine Ka ?_ | refine Kb ?_ ?_ | fail
          all_goals first
            | rfl
            | (exfalso; omega)
            | (exfalso; simp only [Bool.not_eq_true', Bool.not_eq_false', decide_eq_true_eq, decide_eq_false_iff_not, Bool.not_false, Bool.not_true] at *; omega)
            | (exfalso; simp_all; first | done | omega)
        · obtain rfl : x = 1 := by rw [← hx]; simp [h3]
          clear hx
          refine acalls_law Tryz.func162 rfl rfl rfl ?_
          repeat' first | intro h1 | refine st (h := ok_not_dec2 rfl) ?_ | refine st ?_ | refine stRW [0] H1 ?_ | refine stRW [0] H2 ?_ | refine sdRW [0] H1 ?_ | refine sdRW [0] H2 ?_ | refine Kc ?_ | refine Ka ?_ | refine Kb ?_ ?_ | fail
          all_goals first
            | rfl
            | (exfalso; omega)
            | (exfalso; simp only [Bool.not_eq_true', Bool.not_eq_false', decide_eq_true_eq, decide_eq_false_iff_not, Bool.not_false, Bool.not_true] at *; omega)
            | (exfalso; simp_all; first | done | omega)
      · obtain rfl : x = 0 := by rw [← hx]; simp
        clear hx
        refine acalls_law Tryz.func162 rfl rfl rfl ?_
        repeat' first | intro h1 | refine st (h := ok_not_dec2 rfl) ?_ | refine st ?_ | refine stRW [0] H1 ?_ | refine stRW [0] H2 ?_ | refine sdRW [0] H1 ?_ | refine sdRW [0] H2 ?_ | refine Kc ?_ | refine Ka ?_ | refine Kb ?_ ?_ | fail
        all_goals first
          | rfl
          | (exfalso; omega)
          | (exfalso; simp only [Bool.not_eq_true', Bool.not_eq_false', decide_eq_true_eq, decide_eq_false_iff_not, Bool.not_false, Bool.not_true] at *; omega)
          | (exfalso; simp_all; first | done | omega)
set_option maxHeartbeats 1000000 in
theorem ac_rocheck (root : Int) (op : Bool) (run : ByteArray) (v f u : Int) (C : List Int) (n : Nat) (hn : C.length = n) (hb : n ≤ 9000000000000000000) (x : Int) (hx : chkO root run v f u C = x) : ACalls Tryz.prog 163 [.agg #[.int .i64 root, .bool op, .string run, .int .i64 v, .int .i64 f, .int .i64 u, .slice (some ⟨0, 0, none⟩) n n]] [some ⟨List.map (Value.int .i64) C, false, 1⟩] (.int .i64 x) [none] := by
  obtain ⟨z, hz⟩ : ∃ z, noneB v f u n = z := ⟨_, rfl⟩
  obtain ⟨w, hw⟩ : ∃ w, chkH v f u C = w := ⟨_, rfl⟩
  have H1 := ac_empty v f u n z hz
  have H2 := ac_rhcheck v f u C n hn hb w hw
  unfold chkO at hx
  rw [hn, hz, hw] at hx
  by_cases h1 : root < 0 ∨ 32 ≤ root
  · obtain rfl : x = 2 := by rw [← hx]; exact if_pos h1
    clear hx
    refine acalls_law Tryz.func163 rfl rfl rfl ?_
    repeat' first | intro h1 | refine st (h := ok_not_dec2 rfl) ?_ | refine st ?_ | refine stRW [0] H1 ?_ | refine stRW [0] H2 ?_ | refine sdRW [0] H1 ?_ | refine sdRW [0] H2 ?_ | refine Kc ?_ | refine Ka ?_ | refine Kb ?_ ?_ | fail
    all_goals first
      | rfl
      | (exfalso; omega)
      | (exfalso; simp only [Bool.not_eq_true', Bool.not_eq_false', decide_eq_true_eq, decide_eq_false_iff_not, Bool.not_false, Bool.not_true] at *; omega)
      | (exfalso; simp_all; first | done | omega)
  · rw [if_neg h1] at hx
    by_cases h2 : (8 : Int) < run.size
    · obtain rfl : x = 8 := by rw [← hx]; exact if_pos h2
      clear hx
      refine acalls_law Tryz.func163 rfl rfl rfl ?_
      repeat' first | intro h1 | refine st (h := ok_not_dec2 rfl) ?_ | refine st ?_ | refine stRW [0] H1 ?_ | refine stRW [0] H2 ?_ | refine sdRW [0] H1 ?_ | refine sdRW [0] H2 ?_ | refine Kc ?_ | refine Ka ?_ | refine Kb ?_ ?_ | fail
      all_goals first
        | rfl
        | (exfalso; omega)
        | (exfalso; simp only [Bool.not_eq_true', Bool.not_eq_false', decide_eq_true_eq, decide_eq_false_iff_not, Bool.not_false, Bool.not_true] at *; omega)
        | (exfalso; simp_all; first | done | omega)
    · rw [if_neg h2] at hx
      cases z
      · by_cases h3 : w = 0
        · obtain rfl : x = 0 := by rw [← hx]; simp [h3]
          clear hx
          refine acalls_law Tryz.func163 rfl rfl rfl ?_
          repeat' first | intro h1 | refine st (h := ok_not_dec2 rfl) ?_ | refine st ?_ | refine stRW [0] H1 ?_ | refine stRW [0] H2 ?_ | refine sdRW [0] H1 ?_ | refine sdRW [0] H2 ?_ | refine Kc ?_ | refine Ka ?_ | refine Kb ?_ ?_ | fail
          all_goals first
            | rfl
            | (exfalso; omega)
            | (exfalso; simp only [Bool.not_eq_true', Bool.not_eq_false', decide_eq_true_eq, decide_eq_false_iff_not, Bool.not_false, Bool.not_true] at *; omega)
            | (exfalso; simp_all; first | done | omega)
        · obtain rfl : x = 1 := by rw [← hx]; simp [h3]
          clear hx
          refine acalls_law Tryz.func163 rfl rfl rfl ?_
          repeat' first | intro h1 | refine st (h := ok_not_dec2 rfl) ?_ | refine st ?_ | refine stRW [0] H1 ?_ | refine stRW [0] H2 ?_ | refine sdRW [0] H1 ?_ | refine sdRW [0] H2 ?_ | refine Kc ?_ | refine Ka ?_ | refine Kb ?_ ?_ | fail
          all_goals first
            | rfl
            | (exfalso; omega)
            | (exfalso; simp only [Bool.not_eq_true', Bool.not_eq_false', decide_eq_true_eq, decide_eq_false_iff_not, Bool.not_false, Bool.not_true] at *; omega)
            | (exfalso; simp_all; first | done | omega)
      · obtain rfl : x = 0 := by rw [← hx]; simp
        clear hx
        refine acalls_law Tryz.func163 rfl rfl rfl ?_
        repeat' first | intro h1 | refine st (h := ok_not_dec2 rfl) ?_ | refine st ?_ | refine stRW [0] H1 ?_ | refine stRW [0] H2 ?_ | refine sdRW [0] H1 ?_ | refine sdRW [0] H2 ?_ | refine Kc ?_ | refine Ka ?_ | refine Kb ?_ ?_ | fail
        all_goals first
          | rfl
          | (exfalso; omega)
          | (exfalso; simp only [Bool.not_eq_true', Bool.not_eq_false', decide_eq_true_eq, decide_eq_false_iff_not, Bool.not_false, Bool.not_true] at *; omega)
          | (exfalso; simp_all; first | done | omega)
/-- A cell of a table: slot, offset, kind, send, peer, flow. -/
abbrev Ce := Int × Int × Int × Bool × Int × Int × Unit
/-- The slots rise. -/
def mono (C : List Ce) : Prop := ∀ (i j : Nat) (a b : Ce), i ≤ j → C[i]? = some a → C[j]? = some b → a.1 ≤ b.1
/-- The bits of an offer. -/
def ofB (root : Int) (op : Bool) (run : ByteArray) (v f u : Int) (C : List Int) : List Int :=
  bitsOf 5 root ++ bitsOf 1 (if op = true then 1 else 0) ++ (bitsOf 4 run.size ++ strBits run run.size) ++ bitsOf 1 (if (!noneB v f u C.length) = true then 1 else 0) ++ (if noneB v f u C.length = true then [] else bitsOf 8 v ++ bitsOf 27 f ++ bitsOf 27 u ++ bitsOf 4 (C.length - 1) ++ C.flatMap (bitsOf 4))
theorem wd8 : wdth 8 = 4 := by decide +kernel
theorem ch_len (C : List Int) : (C.flatMap (bitsOf 4)).length = 4 * C.length := by
  induction C with
  | nil => rfl
  | cons a C ih => rw [List.flatMap_cons, List.length_append, ih, bitsOf_len, List.length_cons]; omega
theorem ch_snoc {C : List Int} {i : Nat} {c : Int} (h : C[i]? = some c) (xs : List Int) : xs ++ (C.take i).flatMap (bitsOf 4) ++ bitsOf 4 c = xs ++ (C.take (i + 1)).flatMap (bitsOf 4) := by
  rw [List.take_add_one, h, List.flatMap_append, List.append_assoc]
  simp
theorem ofB_01 (root : Int) (op : Bool) (run : ByteArray) (v f u : Int) (C : List Int) : ∀ b ∈ ofB root op run v f u C, b = 0 ∨ b = 1 := fun b hb => by
  have hc : ∀ b ∈ C.flatMap (bitsOf 4), b = 0 ∨ b = 1 := fun b hb => by
    obtain ⟨c, _, h⟩ := List.mem_flatMap.1 hb
    exact bitsOf_01 _ _ b h
  unfold ofB at hb
  simp only [List.mem_append] at hb
  rcases hb with (((hb | hb) | hb) | hb) | hb
  · exact bitsOf_01 _ _ b hb
  · exact bitsOf_01 _ _ b hb
  · rcases hb with hb | hb
    · exact bitsOf_01 _ _ b hb
    · exact strBits_01 _ _ b hb
  · exact bitsOf_01 _ _ b hb
  · split at hb
    · simp at hb
    · simp only [List.mem_append] at hb
      rcases hb with (((hb | hb) | hb) | hb) | hb
      · exact bitsOf_01 _ _ b hb
      · exact bitsOf_01 _ _ b hb
      · exact bitsOf_01 _ _ b hb
      · exact bitsOf_01 _ _ b hb
      · exact hc b hb
theorem chkO_zero {root : Int} {run : ByteArray} {v f u : Int} {C : List Int} (h : chkO root run v f u C = 0) : (0 ≤ root ∧ root < 32) ∧ run.size ≤ 8 ∧ (noneB v f u C.length = true ∨ chkH v f u C = 0) := by
  unfold chkO at h
  by_cases h1 : root < 0 ∨ 32 ≤ root
  · rw [if_pos h1] at h; cases h
  · rw [if_neg h1] at h
    by_cases h2 : (8 : Int) < run.size
    · rw [if_pos h2] at h; cases h
    · rw [if_neg h2] at h
      refine ⟨by omega, by omega, ?_⟩
      cases hz : noneB v f u C.length
      · right
        by_cases h3 : chkH v f u C = 0
        · exact h3
        · rw [if_pos ⟨hz, h3⟩] at h; cases h
      · exact .inl rfl
structure Eg where
  i : Nat
  bs : List Int
set_option maxHeartbeats 1000000 in
theorem ac_roencodeE (root : Int) (op : Bool) (run : ByteArray) (v f u : Int) (C : List Int) (n : Nat) (hn : C.length = n) (hb : n ≤ 9000000000000000000) (x : Int) (hx : chkO root run v f u C = x) (h0 : x ≠ 0) : ACalls Tryz.prog 119 [.agg #[.int .i64 root, .bool op, .string run, .int .i64 v, .int .i64 f, .int .i64 u, .slice (some ⟨0, 0, none⟩) n n]] [some ⟨List.map (Value.int .i64) C, false, 1⟩] (.tuple #[.string .empty, .int .i64 x]) [none] := by
  have H := ac_rocheck root op run v f u C n hn hb x hx
  refine acalls_law Tryz.func119 rfl rfl rfl ?_
  repeat' first | intro h1 | refine st (h := ok_not_dec2 rfl) ?_ | refine st ?_ | refine stRW [0] H ?_ | refine sdRW [0] H ?_ | refine Kc ?_ | refine Ka ?_ | refine Kb ?_ ?_ | fail
  all_goals first
    | rfl
    | (exfalso; omega)
    | (exfalso; simp only [Bool.not_eq_true', Bool.not_eq_false', decide_eq_true_eq, decide_eq_false_iff_not, Bool.not_false, Bool.not_true] at *; omega)
    | (exfalso; simp_all; first | done | omega)
set_option maxHeartbeats 4000000 in
theorem ac_roencode0 (root : Int) (op : Bool) (run : ByteArray) (v f u : Int) (C : List Int) (n : Nat) (hn : C.length = n) (hb : n ≤ 9000000000000000000) (hx : chkO root run v f u C = 0) : ACalls Tryz.prog 119 [.agg #[.int .i64 root, .bool op, .string run, .int .i64 v, .int .i64 f, .int .i64 u, .slice (some ⟨0, 0, none⟩) n n]] [some ⟨List.map (Value.int .i64) C, false, 1⟩] (.tuple #[.string (pkB (ofB root op run v f u C)), .int .i64 0]) [none] := by
  have H := ac_rocheck root op run v f u C n hn hb 0 hx
  obtain ⟨hr, hs, hc⟩ := chkO_zero hx
  obtain ⟨z, hz⟩ : ∃ z, noneB v f u n = z := ⟨_, rfl⟩
  have HN := ac_empty v f u n z hz
  obtain ⟨b0, hb0⟩ : ∃ z : List Int, [] = z := ⟨_, rfl⟩
  have lb0 : b0.length = 0 := by rw [← hb0]; rfl
  have C0 := ac_rnewW0 b0 hb0
  obtain ⟨b1, hb1⟩ : ∃ z, b0 ++ bitsOf 5 root = z := ⟨_, rfl⟩
  have lb1 : b1.length = 5 := by rw [← hb1, List.length_append, bitsOf_len, lb0]
  have C1 := ac_runs0 5 root b0 b1 (by decide) (by rw [show ((2 : Int) ^ (5 : Int).toNat) = 32 from rfl]; omega) (by omega) hb1
  obtain ⟨b2, hb2⟩ : ∃ z, b1 ++ bitsOf 1 (if op = true then 1 else 0) = z := ⟨_, rfl⟩
  have lb2 : b2.length = 6 := by rw [← hb2, List.length_append, bitsOf_len, lb1]
  have C2 := ac_rflag0 op b1 b2 (by omega) hb2
  obtain ⟨b3, hb3⟩ : ∃ z, b2 ++ bitsOf (wdth 8).toNat run.size ++ strBits run run.size = z := ⟨_, rfl⟩
  have lb3 : b3.length = 10 + 8 * run.size := by rw [← hb3, List.length_append, List.length_append, bitsOf_len, strBits_len, lb2, wd8]; rfl
  have C3 := ac_rtext0 8 run b2 b3 (by decide) (by omega) (by rw [wd8]; omega) hb3
  obtain ⟨b4, hb4⟩ : ∃ q, b3 ++ bitsOf 1 (if (!z) = true then 1 else 0) = q := ⟨_, rfl⟩
  have lb4 : b4.length = b3.length + 1 := by rw [← hb4, List.length_append, bitsOf_len]
  have C4 := ac_rflag0 (!z) b3 b4 (by omega) hb4
  have h01 := ofB_01 root op run v f u C
  rw [hn, hz] at hc
  cases z
  · have hh : chkH v f u C = 0 := by rcases hc with hc | hc; cases hc; exact hc
    obtain ⟨q1, q2, q3, q4, q5⟩ := chkH_0 hh
    obtain ⟨n1, n2, n3⟩ := chOK_len q5
    rw [hn] at n1 n2
    obtain ⟨b5, hb5⟩ : ∃ z, b4 ++ bitsOf 8 v = z := ⟨_, rfl⟩
    have lb5 : b5.length = b4.length + 8 := by rw [← hb5, List.length_append, bitsOf_len]
    have C5 := ac_runs0 8 v b4 b5 (by decide) (by rw [show ((2 : Int) ^ (8 : Int).toNat) = 256 from rfl]; omega) (by omega) hb5
    obtain ⟨b6, hb6⟩ : ∃ z, b5 ++ bitsOf 27 f = z := ⟨_, rfl⟩
    have lb6 : b6.length = b5.length + 27 := by rw [← hb6, List.length_append, bitsOf_len]
    have C6 := ac_runs0 27 f b5 b6 (by decide) (by rw [show ((2 : Int) ^ (27 : Int).toNat) = 134217728 from rfl]; omega) (by omega) hb6
    obtain ⟨b7, hb7⟩ : ∃ z, b6 ++ bitsOf 27 u = z := ⟨_, rfl⟩
    have lb7 : b7.length = b6.length + 27 := by rw [← hb7, List.length_append, bitsOf_len]
    have C7 := ac_runs0 27 u b6 b7 (by decide) (by rw [show ((2 : Int) ^ (27 : Int).toNat) = 134217728 from rfl]; omega) (by omega) hb7
    obtain ⟨b8, hb8⟩ : ∃ z, b7 ++ bitsOf 4 ((n : Int) - 1) = z := ⟨_, rfl⟩
    have lb8 : b8.length = b7.length + 4 := by rw [← hb8, List.length_append, bitsOf_len]
    have C8 := ac_runs0 4 ((n : Int) - 1) b7 b8 (by decide) (by rw [show ((2 : Int) ^ (4 : Int).toNat) = 16 from rfl]; omega) (by omega) hb8
    have hm : ofB root op run v f u C = b8 ++ C.flatMap (bitsOf 4) := by
      unfold ofB
      rw [hn, hz, if_neg (show ¬ false = true by decide), ← hb8, ← hb7, ← hb6, ← hb5, ← hb4, ← hb3, ← hb2, ← hb1, ← hb0, wd8]
      simp only [List.append_assoc, List.nil_append]
      rfl
    rw [hm] at h01 ⊢
    clear hm hb7 hb6 hb5 hb4 hb3 hb2 hb1 hb0 hb8 hz hx hh hc q5
    obtain ⟨res, hres⟩ : ∃ res, pkB (b8 ++ C.flatMap (bitsOf 4)) = res := ⟨_, rfl⟩
    rw [hres]
    refine acalls_law Tryz.func119 rfl rfl rfl ?_
    repeat' first | intro h1 | refine st (h := ok_not_dec2 rfl) ?_ | refine st ?_ | refine stRW [0] H ?_ | refine stRW [0] HN ?_ | refine sdRW [0] H ?_ | refine sdRW [0] HN ?_ | refine stMW [] C0 ?_ | refine stMW [2, 3] C1 ?_ | refine stMW [2, 4] C2 ?_ | refine stMW [2, 5] C3 ?_ | refine stMW [2, 6] C4 ?_ | refine stMW [2, 7] C5 ?_ | refine stMW [2, 8] C6 ?_ | refine stMW [2, 9] C7 ?_ | refine stMW [2, 10] C8 ?_ | refine Kc ?_ | refine Ka ?_ | refine Kb ?_ ?_ | fail
    refine aw_loopg
      (S := fun y : Eg => [(1, .pointer (some ⟨1, 0, none⟩)), (5, .pointer (some ⟨2, 0, none⟩)), (6, .int .i64 y.i)])
      (B := fun y : Eg => [some ⟨List.map (Value.int .i64) C, false, 1⟩, some ⟨[.int .i64 root, .bool op, .string run, .int .i64 v, .int .i64 f, .int .i64 u, .slice (some ⟨0, 0, none⟩) n n], true, 1⟩, some ⟨[.slice (some ⟨3, 0, none⟩) y.bs.length y.bs.length, .int .i64 0], true, 1⟩, some ⟨List.map (Value.int .u8) y.bs, true, 1⟩])
      (R := fun y : Eg => y.i ≤ n ∧ b8 ++ (C.take y.i).flatMap (bitsOf 4) = y.bs)
      (μ := fun y : Eg => n - y.i) ⟨0, b8⟩ (fitsD [0, 1, 2, 11]) ⟨Nat.zero_le _, by simp⟩ ?_
    rintro ⟨i, bs⟩ ⟨g1, g2⟩
    dsimp only at *
    have lbs : bs.length = b8.length + 4 * i := by rw [← g2, List.length_append, ch_len, List.length_take]; omega
    by_cases hi : i < n
    · obtain ⟨q, hq⟩ : ∃ q, C[i]? = some q := ⟨_, List.getElem?_eq_getElem (by omega)⟩
      have hqr := n3 q (List.mem_of_getElem? hq)
      obtain ⟨bs', hbs'⟩ : ∃ z, bs ++ bitsOf 4 q = z := ⟨_, rfl⟩
      have hst : b8 ++ (C.take (i + 1)).flatMap (bitsOf 4) = bs' := by rw [← hbs', ← g2, ch_snoc hq]
      have C9 := ac_runs0 4 q bs bs' (by decide) (by rw [show ((2 : Int) ^ (4 : Int).toNat) = 16 from rfl]; omega) (by omega) hbs'
      repeat' first | intro h1 | refine st (h := ok_not_dec2 rfl) ?_ | refine st (h := ok_load_mapE (f := Value.int .i64) i hq rfl rfl rfl (by omega)) ?_ | refine st ?_ | refine stMW [2, 3] C9 ?_ | refine Kc ?_ | refine Ka ?_ | refine Kb ?_ ?_ | fail
      all_goals first | exact Exists.intro ⟨i + 1, bs'⟩ ⟨fitsD [0, 1, 2, 4], ⟨hi, hst⟩, by dsimp only; omega⟩ | (exfalso; omega)
    · obtain rfl : n = i := by omega
      have he : bs = b8 ++ C.flatMap (bitsOf 4) := by rw [← g2, ← hn, List.take_length]
      have CBy := ac_rbytes0 bs (by omega) (by rw [he]; exact h01)
      rw [he, hres] at CBy
      rw [← he] at CBy
      repeat' first | intro h1 | refine st (h := ok_not_dec2 rfl) ?_ | refine st ?_ | refine stRW [2, 3] CBy ?_ | refine Kc ?_ | refine Ka ?_ | refine Kb ?_ ?_ | fail
      all_goals first
        | rfl
        | (exfalso; omega)
        | (exfalso; simp only [Bool.not_eq_true', Bool.not_eq_false', decide_eq_true_eq, decide_eq_false_iff_not, Bool.not_false, Bool.not_true] at *; omega)
        | (exfalso; simp_all; first | done | omega)
  · have hm : ofB root op run v f u C = b4 := by
      unfold ofB
      rw [hn, hz, if_pos rfl, ← hb4, ← hb3, ← hb2, ← hb1, ← hb0, wd8]
      simp only [List.append_assoc, List.nil_append, List.append_nil]
      rfl
    rw [hm] at h01 ⊢
    have CBy := ac_rbytes0 b4 (by omega) h01
    clear hm hb4 hb3 hb2 hb1 hb0 hz hx hc
    generalize pkB b4 = res at CBy ⊢
    refine acalls_law Tryz.func119 rfl rfl rfl ?_
    repeat' first | intro h1 | refine st (h := ok_not_dec2 rfl) ?_ | refine st ?_ | refine stRW [0] H ?_ | refine stRW [0] HN ?_ | refine sdRW [0] H ?_ | refine sdRW [0] HN ?_ | refine stMW [] C0 ?_ | refine stMW [2, 3] C1 ?_ | refine stMW [2, 4] C2 ?_ | refine stMW [2, 5] C3 ?_ | refine stMW [2, 6] C4 ?_ | refine stMW [2, 7] C5 ?_ | refine stMW [2, 8] C6 ?_ | refine stMW [2, 9] C7 ?_ | refine stMW [2, 10] C8 ?_ | refine stRW [2, 7] CBy ?_ | refine Kc ?_ | refine Ka ?_ | refine Kb ?_ ?_ | fail
    all_goals first
      | rfl
      | (exfalso; omega)
      | (exfalso; simp only [Bool.not_eq_true', Bool.not_eq_false', decide_eq_true_eq, decide_eq_false_iff_not, Bool.not_false, Bool.not_true] at *; omega)
      | (exfalso; simp_all; first | done | omega)
def u_ (d : ByteArray) (w : Int) (p : Nat × Int) : Int × Nat × Int := unsR d p.1 p.2 w
def f_ (d : ByteArray) (p : Nat × Int) : Bool × Nat × Int := flgR d p.1 p.2
def t_ (d : ByteArray) (m : Int) (p : Nat × Int) : ByteArray × Nat × Int := txtR d p.1 p.2 m
/-- So many channels, read. -/
def chR (d : ByteArray) (a : Nat) (e : Int) : Nat → List Int × Nat × Int
  | 0 => ([], a, e)
  | k + 1 => ((chR d a e k).1 ++ [(unsR d (chR d a e k).2.1 (chR d a e k).2.2 4).1], (unsR d (chR d a e k).2.1 (chR d a e k).2.2 4).2)
theorem chR_succ {d : ByteArray} {a a0 a1 : Nat} {e e0 e1 v1 : Int} {k : Nat} {L : List Int} (h : chR d a e k = (L, a0, e0)) (h1 : unsR d a0 e0 4 = (v1, a1, e1)) : chR d a e (k + 1) = (L ++ [v1], a1, e1) := by
  rw [chR, h]
  dsimp only
  rw [h1]
theorem unsR_le {d : ByteArray} {a a' : Nat} {e e' w v : Int} (h : unsR d a e w = (v, a', e')) (ha : a ≤ 8 * d.size) (hw : 1 ≤ w ∧ w ≤ 63) : a' ≤ 8 * d.size := by
  unfold unsR at h
  rcases fieldR_cases h with ⟨_, _, rfl, _⟩ | ⟨_, _, _, rfl, _, h6⟩ <;> omega
theorem flgR_le {d : ByteArray} {a a' : Nat} {e e' : Int} {v : Bool} (h : flgR d a e = (v, a', e')) (ha : a ≤ 8 * d.size) : a' ≤ 8 * d.size := by
  unfold flgR at h
  obtain ⟨v1, a1, e1, h1⟩ : ∃ v1 a1 e1, fieldR d a e true 1 = (v1, a1, e1) := ⟨_, _, _, rfl⟩
  rw [h1] at h
  simp only [Prod.mk.injEq] at h
  obtain ⟨_, rfl, rfl⟩ := h
  rcases fieldR_cases h1 with ⟨_, _, rfl, _⟩ | ⟨_, _, _, rfl, _, h6⟩ <;> omega
theorem unsR_rng {d : ByteArray} {a a' : Nat} {e e' w v : Int} (h : unsR d a e w = (v, a', e')) (hw : 1 ≤ w ∧ w ≤ 63) : 0 ≤ v ∧ v < 2 ^ w.toNat := by
  unfold unsR at h
  rcases fieldR_cases h with ⟨_, rfl, _, _⟩ | ⟨_, _, _, _, rfl, _⟩
  · exact ⟨Int.le_refl _, Int.pow_pos (by decide)⟩
  · exact rdN_bd d a w.toNat
theorem txtR_le {d : ByteArray} {a a' : Nat} {e e' m : Int} {t : ByteArray} (h : txtR d a e m = (t, a', e')) (ha : a ≤ 8 * d.size) (hm : 1 ≤ m ∧ m ≤ 4095) : a' ≤ 8 * d.size := by
  obtain ⟨v1, a1, e1, h1⟩ : ∃ v1 a1 e1, fieldR d a e (decide (1 ≤ m ∧ m ≤ 4095)) (wdth m) = (v1, a1, e1) := ⟨_, _, _, rfl⟩
  have hw := wdth_bd m (by omega)
  have hle : a1 ≤ 8 * d.size := by
    rw [decide_eq_true hm] at h1
    rcases fieldR_cases h1 with ⟨_, _, rfl, _⟩ | ⟨_, _, _, rfl, _, h6⟩ <;> omega
  unfold txtR at h
  rw [h1] at h
  dsimp only at h
  split at h
  · simp only [Prod.mk.injEq] at h
    omega
  · split at h
    · simp only [Prod.mk.injEq] at h; omega
    · split at h
      · simp only [Prod.mk.injEq] at h; omega
      · simp only [Prod.mk.injEq] at h; omega
theorem chR_le {d : ByteArray} {a a' : Nat} {e e' : Int} {k : Nat} {L : List Int} (h : chR d a e k = (L, a', e')) (ha : a ≤ 8 * d.size) : a' ≤ 8 * d.size := by
  induction k generalizing L a' e' with
  | zero => simp only [chR, Prod.mk.injEq] at h; omega
  | succ k ih =>
    obtain ⟨L0, a0, e0, h0⟩ : ∃ x y z, chR d a e k = (x, y, z) := ⟨_, _, _, rfl⟩
    obtain ⟨v1, a1, e1, h1⟩ : ∃ x y z, unsR d a0 e0 4 = (x, y, z) := ⟨_, _, _, rfl⟩
    rw [chR_succ h0 h1] at h
    simp only [Prod.mk.injEq] at h
    obtain ⟨_, rfl, _⟩ := h
    exact unsR_le h1 (ih h0) (by decide)
theorem chR_len {d : ByteArray} {a a' : Nat} {e e' : Int} {k : Nat} {L : List Int} (h : chR d a e k = (L, a', e')) : L.length = k := by
  induction k generalizing L a' e' with
  | zero => simp only [chR, Prod.mk.injEq] at h; rw [← h.1]; rfl
  | succ k ih =>
    obtain ⟨L0, a0, e0, h0⟩ : ∃ x y z, chR d a e k = (x, y, z) := ⟨_, _, _, rfl⟩
    obtain ⟨v1, a1, e1, h1⟩ : ∃ x y z, unsR d a0 e0 4 = (x, y, z) := ⟨_, _, _, rfl⟩
    rw [chR_succ h0 h1] at h
    simp only [Prod.mk.injEq] at h
    obtain ⟨rfl, _⟩ := h
    rw [List.length_append, ih h0]; rfl
/-- A hopping list, read. -/
def lsH (d : ByteArray) (p : Nat × Int) : (Int × Int × Int × List Int) × Nat × Int :=
  let x1 := u_ d 8 p
  let x2 := u_ d 27 x1.2
  let x3 := u_ d 27 x2.2
  let x4 := u_ d 4 x3.2
  let x5 := chR d x4.2.1 x4.2.2 (x4.1 + 1).toNat
  ((x1.1, x2.1, x3.1, x5.1), x5.2)
abbrev OfT := Int × Bool × ByteArray × Int × Int × Int × List Int
def of0 : OfT := (0, false, ⟨#[]⟩, 0, 0, 0, [])
def chkOf (m : OfT) : Int := chkO m.1 m.2.2.1 m.2.2.2.1 m.2.2.2.2.1 m.2.2.2.2.2.1 m.2.2.2.2.2.2
/-- An offer, read. -/
def rdO (d : ByteArray) : OfT × Nat × Int :=
  let x1 := u_ d 5 (0, 0)
  let x2 := f_ d x1.2
  let x3 := t_ d 8 x2.2
  let x4 := f_ d x3.2
  if x4.1 = true then ((x1.1, x2.1, x3.1, (lsH d x4.2).1), (lsH d x4.2).2) else ((x1.1, x2.1, x3.1, 0, 0, 0, []), x4.2)
/-- What Decode returns. -/
def decO (d : ByteArray) : OfT × Int := if closeR d (rdO d).2.1 (rdO d).2.2 ≠ 0 then (of0, 10) else if chkOf (rdO d).1 ≠ 0 then (of0, 10) else ((rdO d).1, 0)
theorem dec_bad1 {d : ByteArray} {m : OfT} {a : Nat} {e : Int} (h : rdO d = (m, a, e)) (hc : closeR d a e ≠ 0) : decO d = (of0, 10) := by
  unfold decO; rw [h]; exact if_pos hc
theorem dec_bad2 {d : ByteArray} {m : OfT} {a : Nat} {e : Int} (h : rdO d = (m, a, e)) (hc : closeR d a e = 0) (hk : chkOf m ≠ 0) : decO d = (of0, 10) := by
  unfold decO; rw [h]; dsimp only; rw [if_neg (by simpa using hc), if_pos hk]
theorem dec_good {d : ByteArray} {m : OfT} {a : Nat} {e : Int} (h : rdO d = (m, a, e)) (hc : closeR d a e = 0) (hk : chkOf m = 0) : decO d = (m, 0) := by
  unfold decO; rw [h]; dsimp only; rw [if_neg (by simpa using hc), if_neg (by simpa using hk)]
structure Cg where
  i : Nat
  L : List Int
  a : Nat
  e : Int
  d2 : ByteArray
  a2 : Int
set_option maxHeartbeats 4000000 in
theorem ac_list (d : ByteArray) (hd : d.size ≤ 1000000) (a a1 a2 a3 a4 a5 : Nat) (e e1 e2 e3 e4 e5 v f u p : Int) (C : List Int) (N : Nat) (h1 : unsR d a e 8 = (v, a1, e1)) (h2 : unsR d a1 e1 27 = (f, a2, e2)) (h3 : unsR d a2 e2 27 = (u, a3, e3)) (h4 : unsR d a3 e3 4 = (p, a4, e4)) (hN : p + 1 = (N : Int)) (h5 : chR d a4 e4 N = (C, a5, e5)) (ha : a ≤ 8 * d.size) :
    ACalls Tryz.prog 160 [.func (.func 133) #[.pointer (some ⟨0, 0, none⟩)] #[]] [some ⟨[.string d, .int .i64 (a : Int), .int .i64 e], true, 1⟩] (.agg #[.int .i64 v, .int .i64 f, .int .i64 u, .slice (some ⟨1, 0, none⟩) N N]) [some ⟨[.string d, .int .i64 (a5 : Int), .int .i64 e5], true, 1⟩, some ⟨List.map (Value.int .i64) C, true, 1⟩] := by
  have l1 := unsR_le h1 ha (by decide)
  have l2 := unsR_le h2 l1 (by decide)
  have l3 := unsR_le h3 l2 (by decide)
  have l4 := unsR_le h4 l3 (by decide)
  have hp := unsR_rng h4 (by decide)
  rw [show ((2 : Int) ^ (4 : Int).toNat) = 16 from rfl] at hp
  have H1 := ac_unsR 8 e e1 v a a1 d h1 ha hd (by decide)
  have H2 := ac_unsR 27 e1 e2 f a1 a2 d h2 l1 hd (by decide)
  have H3 := ac_unsR 27 e2 e3 u a2 a3 d h3 l2 hd (by decide)
  have H4 := ac_unsR 4 e3 e4 p a3 a4 d h4 l3 hd (by decide)
  refine acalls_of_aw Tryz.func160 rfl rfl ?_
  refine aw_ghost 1 rfl ?_
  repeat' first | intro h1 | refine st ?_ | refine stMW [0] H1 ?_ | refine stMW [0] H2 ?_ | refine stMW [0] H3 ?_ | refine stMW [0] H4 ?_ | refine Kc ?_ | refine Ka ?_ | refine Kb ?_ ?_ | refine J0 (id := 4) [0,1,0,4,12,31,63,127] 5 ?_ | fail
  clear H1 H2 H3 H4
  refine aw_loopg
    (S := fun y : Cg => [(0, .func (.func 133) #[.pointer (some ⟨0, 0, none⟩)] #[]), (2, .pointer (some ⟨2, 0, none⟩)), (3, .pointer (some ⟨3, 0, none⟩)), (13, .int .i64 (p + 1)), (14, .int .i64 y.i)])
    (B := fun y : Cg => [some ⟨[.string d, .int .i64 (y.a : Int), .int .i64 y.e], true, 1⟩, some ⟨List.map (Value.int .i64) y.L, true, 1⟩, some ⟨[.int .i64 0, .int .i64 0, .int .i64 0, .slice none 0 0], true, 1⟩, some ⟨[.int .i64 v, .int .i64 f, .int .i64 u, .slice (some ⟨1, 0, none⟩) y.i y.i], true, 1⟩])
    (R := fun y : Cg => y.i ≤ N ∧ chR d a4 e4 y.i = (y.L, y.a, y.e) ∧ y.L.length = y.i ∧ y.a ≤ 8 * d.size)
    (μ := fun y : Cg => N - y.i) ⟨0, [], a4, e4, d, 0⟩ (fitsD [0, 1, 2, 3]) ⟨Nat.zero_le _, rfl, rfl, l4⟩ ?_
  rintro ⟨i, Li, ai, ei, d2, a2⟩ ⟨g1, g2, g3, g4⟩
  dsimp only at *
  by_cases hi : i < N
  · obtain ⟨v1, a6, e6, h6⟩ : ∃ v z e1, unsR d ai ei 4 = (v, z, e1) := ⟨_, _, _, rfl⟩
    have l6 := unsR_le h6 g4 (by decide)
    have hn := chR_succ g2 h6
    have H6 := ac_unsR 4 ei e6 v1 ai a6 d h6 g4 hd (by decide)
    repeat' first | intro h1 | refine Own.sob (n := 1) (h := ok_append (cs := List.map (Value.int .i64) (Li ++ [v1])) (olds := List.map (Value.int .i64) Li) rfl rfl rfl rfl rfl rfl (Src.slc rfl Ty.eq rfl (Nat.le_of_ble_eq_true rfl) rfl rfl rfl) (by simp; omega) (take_full (by simp; omega)) (by rw [List.map_append]; rfl) (by omega) (by (repeat constructor))) ?_ | refine st ?_ | refine Own.soMW [0] H6 ?_ | refine Kc ?_ | refine Ka ?_ | refine Kb ?_ ?_ | refine aw_region_oC (id := 4) [0, 1, 0, 4, 12, 31, 63, 127] 5 [[], [], [], [0]] (by (repeat constructor)) (by kernel_rfl) (by kernel_rfl) (by kernel_rfl) (by rfl) (by rfl) ?_ | fail
    all_goals first | exact Exists.intro ⟨i + 1, Li ++ [v1], a6, e6, d, 0⟩ ⟨fitsD [0, 5, 2, 3], ⟨hi, hn, by rw [List.length_append, g3]; rfl, l6⟩, by dsimp only; omega⟩ | (exfalso; omega)
  · obtain rfl : i = N := by omega
    rw [g2] at h5
    simp only [Prod.mk.injEq] at h5
    obtain ⟨rfl, rfl, rfl⟩ := h5
    repeat' first | intro h1 | refine st ?_ | refine Kc ?_ | refine Ka ?_ | refine Kb ?_ ?_ | refine J0 (id := 4) [0,1,0,4,12,31,63,127] 5 ?_ | fail
    all_goals first | exact pm_ret _ (renumD [0, 1]) rfl | exact pm_normal _ (renumD [0, 1]) rfl | (exfalso; omega)
end Go.Proofs.YtdbcbclapipgdaaGreatDoor
