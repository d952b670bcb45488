/- Offers: written. -/
import Derived.Test.YtfabgdignlfihaaH3
import Derived.Test.YtfabgdignlfihaaW0
set_option linter.unusedVariables false
set_option linter.unusedSimpArgs false
namespace Go.Proofs.Ytfabgdignlfihaa
open Go Av
set_option maxRecDepth 20000
/-- The bits of an offer. -/
def ofB (root : Int) (op : Bool) (run : ByteArray) (v f u : Int) (C : List Int) : List Int :=
  bitsOf 5 root ++ bitsOf 1 (if op = true then 1 else 0) ++ (bitsOf 4 run.size ++ strBits run run.size) ++ bitsOf 1 (if (!noneB v f u C.length) = true then 1 else 0) ++ (if noneB v f u C.length = true then [] else bitsOf 8 v ++ bitsOf 27 f ++ bitsOf 27 u ++ bitsOf 4 (C.length - 1) ++ C.flatMap (bitsOf 4))
theorem wd8 : wdth 8 = 4 := by decide +kernel
theorem ch_len (C : List Int) : (C.flatMap (bitsOf 4)).length = 4 * C.length := by
  induction C with
  | nil => rfl
  | cons a C ih => rw [List.flatMap_cons, List.length_append, ih, bitsOf_len, List.length_cons]; omega
theorem ch_snoc {C : List Int} {i : Nat} {c : Int} (h : C[i]? = some c) (xs : List Int) : xs ++ (C.take i).flatMap (bitsOf 4) ++ bitsOf 4 c = xs ++ (C.take (i + 1)).flatMap (bitsOf 4) := by
  rw [List.take_add_one, h, List.flatMap_append, List.append_assoc]
  simp
theorem ofB_01 (root : Int) (op : Bool) (run : ByteArray) (v f u : Int) (C : List Int) : ∀ b ∈ ofB root op run v f u C, b = 0 ∨ b = 1 := fun b hb => by
  have hc : ∀ b ∈ C.flatMap (bitsOf 4), b = 0 ∨ b = 1 := fun b hb => by
    obtain ⟨c, _, h⟩ := List.mem_flatMap.1 hb
    exact bitsOf_01 _ _ b h
  unfold ofB at hb
  simp only [List.mem_append] at hb
  rcases hb with (((hb | hb) | hb) | hb) | hb
  · exact bitsOf_01 _ _ b hb
  · exact bitsOf_01 _ _ b hb
  · rcases hb with hb | hb
    · exact bitsOf_01 _ _ b hb
    · exact strBits_01 _ _ b hb
  · exact bitsOf_01 _ _ b hb
  · split at hb
    · simp at hb
    · simp only [List.mem_append] at hb
      rcases hb with (((hb | hb) | hb) | hb) | hb
      · exact bitsOf_01 _ _ b hb
      · exact bitsOf_01 _ _ b hb
      · exact bitsOf_01 _ _ b hb
      · exact bitsOf_01 _ _ b hb
      · exact hc b hb
theorem chkO_zero {root : Int} {run : ByteArray} {v f u : Int} {C : List Int} (h : chkO root run v f u C = 0) : (0 ≤ root ∧ root < 32) ∧ run.size ≤ 8 ∧ (noneB v f u C.length = true ∨ chkH v f u C = 0) := by
  unfold chkO at h
  by_cases h1 : root < 0 ∨ 32 ≤ root
  · rw [if_pos h1] at h; cases h
  · rw [if_neg h1] at h
    by_cases h2 : (8 : Int) < run.size
    · rw [if_pos h2] at h; cases h
    · rw [if_neg h2] at h
      refine ⟨by omega, by omega, ?_⟩
      cases hz : noneB v f u C.length
      · right
        by_cases h3 : chkH v f u C = 0
        · exact h3
        · rw [if_pos ⟨hz, h3⟩] at h; cases h
      · exact .inl rfl
structure Eg where
  i : Nat
  bs : List Int
set_option maxHeartbeats 1000000 in
theorem ac_oencodeE (root : Int) (op : Bool) (run : ByteArray) (v f u : Int) (C : List Int) (n : Nat) (hn : C.length = n) (hb : n ≤ 9000000000000000000) (x : Int) (hx : chkO root run v f u C = x) (h0 : x ≠ 0) : ACalls Try.prog 13 [.agg #[.int .i64 root, .bool op, .string run, .int .i64 v, .int .i64 f, .int .i64 u, .slice (some ⟨0, 0, none⟩) n n]] [some ⟨List.map (Value.int .i64) C, false, 1⟩] (.tuple #[.string .empty, .int .i64 x]) [none] := by
  have H := ac_ocheck root op run v f u C n hn hb x hx
  refine acalls_law Try.func13 rfl rfl rfl ?_
  repeat' first
    | refine st (h := ok_not_dec2 rfl) ?_
    | refine st ?_
    | refine stRW [0] H ?_
    | refine sdRW [0] H ?_
    | refine stm ?_
    | refine run_want rfl rfl ?_
    | refine run_unwant rfl rfl ?_
    | refine run_undef rfl rfl ?_
    | refine run_guard1t rfl rfl (by omega) ?_
    | refine run_guard1f rfl rfl (by omega) ?_
    | refine run_guard0t rfl rfl (by omega) ?_
    | refine run_guard0f rfl rfl (by omega) ?_
    | refine run_guard1 rfl rfl (fun h1 => ?_) (fun h1 => ?_)
    | refine run_guard0 rfl rfl (fun h1 => ?_) (fun h1 => ?_)
    | refine run_guard rfl rfl (fun h1 => ?_) (fun h1 => ?_)
    | refine run_nil ?_
    | refine aw_seq ?_
    | refine aw_region (by kernel_rfl) (Nat.le_of_ble_eq_true rfl) ?_
    | refine aw_block ?_
    | refine aw_cond_t rfl ?_
    | refine aw_cond_f rfl ?_
    | refine aw_cond_tp rfl (by omega) ?_
    | refine aw_cond_fp rfl (by omega) ?_
    | refine aw_cond1 rfl (fun h1 => ?_) (fun h1 => ?_)
    | refine aw_cond rfl (fun h1 => ?_) (fun h1 => ?_)
    | refine aw_skip ?_
    | refine aw_exit ?_
    | refine aw_ret ?_
    | refine pp_ret ?_
    | refine pp_normal ?_
  all_goals first
    | rfl
    | (exfalso; omega)
    | (exfalso; simp only [Bool.not_eq_true', Bool.not_eq_false', decide_eq_true_eq, decide_eq_false_iff_not, Bool.not_false, Bool.not_true] at *; omega)
    | (exfalso; simp_all; first | done | omega)
set_option maxHeartbeats 1000000 in
theorem ac_roencodeE (root : Int) (op : Bool) (run : ByteArray) (v f u : Int) (C : List Int) (n : Nat) (hn : C.length = n) (hb : n ≤ 9000000000000000000) (x : Int) (hx : chkO root run v f u C = x) (h0 : x ≠ 0) : ACalls Try.prog 14 [.agg #[.int .i64 root, .bool op, .string run, .int .i64 v, .int .i64 f, .int .i64 u, .slice (some ⟨0, 0, none⟩) n n]] [some ⟨List.map (Value.int .i64) C, false, 1⟩] (.tuple #[.string .empty, .int .i64 x]) [none] := by
  have H := ac_rocheck root op run v f u C n hn hb x hx
  refine acalls_law Try.func14 rfl rfl rfl ?_
  repeat' first
    | refine st (h := ok_not_dec2 rfl) ?_
    | refine st ?_
    | refine stRW [0] H ?_
    | refine sdRW [0] H ?_
    | refine stm ?_
    | refine run_want rfl rfl ?_
    | refine run_unwant rfl rfl ?_
    | refine run_undef rfl rfl ?_
    | refine run_guard1t rfl rfl (by omega) ?_
    | refine run_guard1f rfl rfl (by omega) ?_
    | refine run_guard0t rfl rfl (by omega) ?_
    | refine run_guard0f rfl rfl (by omega) ?_
    | refine run_guard1 rfl rfl (fun h1 => ?_) (fun h1 => ?_)
    | refine run_guard0 rfl rfl (fun h1 => ?_) (fun h1 => ?_)
    | refine run_guard rfl rfl (fun h1 => ?_) (fun h1 => ?_)
    | refine run_nil ?_
    | refine aw_seq ?_
    | refine aw_region (by kernel_rfl) (Nat.le_of_ble_eq_true rfl) ?_
    | refine aw_block ?_
    | refine aw_cond_t rfl ?_
    | refine aw_cond_f rfl ?_
    | refine aw_cond_tp rfl (by omega) ?_
    | refine aw_cond_fp rfl (by omega) ?_
    | refine aw_cond1 rfl (fun h1 => ?_) (fun h1 => ?_)
    | refine aw_cond rfl (fun h1 => ?_) (fun h1 => ?_)
    | refine aw_skip ?_
    | refine aw_exit ?_
    | refine aw_ret ?_
    | refine pp_ret ?_
    | refine pp_normal ?_
  all_goals first
    | rfl
    | (exfalso; omega)
    | (exfalso; simp only [Bool.not_eq_true', Bool.not_eq_false', decide_eq_true_eq, decide_eq_false_iff_not, Bool.not_false, Bool.not_true] at *; omega)
    | (exfalso; simp_all; first | done | omega)
set_option maxHeartbeats 4000000 in
theorem ac_oencode0 (root : Int) (op : Bool) (run : ByteArray) (v f u : Int) (C : List Int) (n : Nat) (hn : C.length = n) (hb : n ≤ 9000000000000000000) (hx : chkO root run v f u C = 0) : ACalls Try.prog 13 [.agg #[.int .i64 root, .bool op, .string run, .int .i64 v, .int .i64 f, .int .i64 u, .slice (some ⟨0, 0, none⟩) n n]] [some ⟨List.map (Value.int .i64) C, false, 1⟩] (.tuple #[.string (pkB (ofB root op run v f u C)), .int .i64 0]) [none] := by
  have H := ac_ocheck root op run v f u C n hn hb 0 hx
  obtain ⟨hr, hs, hc⟩ := chkO_zero hx
  obtain ⟨z, hz⟩ : ∃ z, noneB v f u n = z := ⟨_, rfl⟩
  have HN := ac_none v f u n z hz
  obtain ⟨b0, hb0⟩ : ∃ z : List Int, [] = z := ⟨_, rfl⟩
  have lb0 : b0.length = 0 := by rw [← hb0]; rfl
  have C0 := ac_newW0 b0 hb0
  obtain ⟨b1, hb1⟩ : ∃ z, b0 ++ bitsOf 5 root = z := ⟨_, rfl⟩
  have lb1 : b1.length = 5 := by rw [← hb1, List.length_append, bitsOf_len, lb0]
  have C1 := ac_uns0 5 root b0 b1 (by decide) (by rw [show ((2 : Int) ^ (5 : Int).toNat) = 32 from rfl]; omega) (by omega) hb1
  obtain ⟨b2, hb2⟩ : ∃ z, b1 ++ bitsOf 1 (if op = true then 1 else 0) = z := ⟨_, rfl⟩
  have lb2 : b2.length = 6 := by rw [← hb2, List.length_append, bitsOf_len, lb1]
  have C2 := ac_flag0 op b1 b2 (by omega) hb2
  obtain ⟨b3, hb3⟩ : ∃ z, b2 ++ bitsOf (wdth 8).toNat run.size ++ strBits run run.size = z := ⟨_, rfl⟩
  have lb3 : b3.length = 10 + 8 * run.size := by rw [← hb3, List.length_append, List.length_append, bitsOf_len, strBits_len, lb2, wd8]; rfl
  have C3 := ac_text0 8 run b2 b3 (by decide) (by omega) (by rw [wd8]; omega) hb3
  obtain ⟨b4, hb4⟩ : ∃ q, b3 ++ bitsOf 1 (if (!z) = true then 1 else 0) = q := ⟨_, rfl⟩
  have lb4 : b4.length = b3.length + 1 := by rw [← hb4, List.length_append, bitsOf_len]
  have C4 := ac_flag0 (!z) b3 b4 (by omega) hb4
  have h01 := ofB_01 root op run v f u C
  rw [hn, hz] at hc
  cases z
  · have hh : chkH v f u C = 0 := by rcases hc with hc | hc; cases hc; exact hc
    obtain ⟨q1, q2, q3, q4, q5⟩ := chkH_0 hh
    obtain ⟨n1, n2, n3⟩ := chOK_len q5
    rw [hn] at n1 n2
    obtain ⟨b5, hb5⟩ : ∃ z, b4 ++ bitsOf 8 v = z := ⟨_, rfl⟩
    have lb5 : b5.length = b4.length + 8 := by rw [← hb5, List.length_append, bitsOf_len]
    have C5 := ac_uns0 8 v b4 b5 (by decide) (by rw [show ((2 : Int) ^ (8 : Int).toNat) = 256 from rfl]; omega) (by omega) hb5
    obtain ⟨b6, hb6⟩ : ∃ z, b5 ++ bitsOf 27 f = z := ⟨_, rfl⟩
    have lb6 : b6.length = b5.length + 27 := by rw [← hb6, List.length_append, bitsOf_len]
    have C6 := ac_uns0 27 f b5 b6 (by decide) (by rw [show ((2 : Int) ^ (27 : Int).toNat) = 134217728 from rfl]; omega) (by omega) hb6
    obtain ⟨b7, hb7⟩ : ∃ z, b6 ++ bitsOf 27 u = z := ⟨_, rfl⟩
    have lb7 : b7.length = b6.length + 27 := by rw [← hb7, List.length_append, bitsOf_len]
    have C7 := ac_uns0 27 u b6 b7 (by decide) (by rw [show ((2 : Int) ^ (27 : Int).toNat) = 134217728 from rfl]; omega) (by omega) hb7
    obtain ⟨b8, hb8⟩ : ∃ z, b7 ++ bitsOf 4 ((n : Int) - 1) = z := ⟨_, rfl⟩
    have lb8 : b8.length = b7.length + 4 := by rw [← hb8, List.length_append, bitsOf_len]
    have C8 := ac_uns0 4 ((n : Int) - 1) b7 b8 (by decide) (by rw [show ((2 : Int) ^ (4 : Int).toNat) = 16 from rfl]; omega) (by omega) hb8
    have hm : ofB root op run v f u C = b8 ++ C.flatMap (bitsOf 4) := by
      unfold ofB
      rw [hn, hz, if_neg (show ¬ false = true by decide), ← hb8, ← hb7, ← hb6, ← hb5, ← hb4, ← hb3, ← hb2, ← hb1, ← hb0, wd8]
      simp only [List.append_assoc, List.nil_append]
      rfl
    rw [hm] at h01 ⊢
    clear hm hb7 hb6 hb5 hb4 hb3 hb2 hb1 hb0 hb8 hz hx hh hc q5
    obtain ⟨res, hres⟩ : ∃ res, pkB (b8 ++ C.flatMap (bitsOf 4)) = res := ⟨_, rfl⟩
    rw [hres]
    refine acalls_law Try.func13 rfl rfl rfl ?_
    repeat' first
      | refine st (h := ok_not_dec2 rfl) ?_
      | refine st ?_
      | refine stRW [0] H ?_
      | refine stRW [0] HN ?_
      | refine sdRW [0] H ?_
      | refine sdRW [0] HN ?_
      | refine stMW [] C0 ?_
      | refine stMW [2, 3] C1 ?_
      | refine stMW [2, 4] C2 ?_
      | refine stMW [2, 5] C3 ?_
      | refine stMW [2, 6] C4 ?_
      | refine stMW [2, 7] C5 ?_
      | refine stMW [2, 8] C6 ?_
      | refine stMW [2, 9] C7 ?_
      | refine stMW [2, 10] C8 ?_
      | refine stm ?_
      | refine run_want rfl rfl ?_
      | refine run_unwant rfl rfl ?_
      | refine run_undef rfl rfl ?_
      | refine run_guard1t rfl rfl (by omega) ?_
      | refine run_guard1f rfl rfl (by omega) ?_
      | refine run_guard0t rfl rfl (by omega) ?_
      | refine run_guard0f rfl rfl (by omega) ?_
      | refine run_guard1 rfl rfl (fun h1 => ?_) (fun h1 => ?_)
      | refine run_guard0 rfl rfl (fun h1 => ?_) (fun h1 => ?_)
      | refine run_guard rfl rfl (fun h1 => ?_) (fun h1 => ?_)
      | refine run_nil ?_
      | refine aw_seq ?_
      | refine aw_region (by kernel_rfl) (Nat.le_of_ble_eq_true rfl) ?_
      | refine aw_block ?_
      | refine aw_cond_t rfl ?_
      | refine aw_cond_f rfl ?_
      | refine aw_cond_tp rfl (by omega) ?_
      | refine aw_cond_fp rfl (by omega) ?_
      | refine aw_cond1 rfl (fun h1 => ?_) (fun h1 => ?_)
      | refine aw_cond rfl (fun h1 => ?_) (fun h1 => ?_)
      | refine aw_skip ?_
      | refine aw_exit ?_
      | refine aw_ret ?_
      | refine pp_ret ?_
      | refine pp_normal ?_
    refine aw_loopg
      (S := fun y : Eg => [(1, .pointer (some ⟨1, 0, none⟩)), (5, .pointer (some ⟨2, 0, none⟩)), (60, .slice (some ⟨0, 0, none⟩) n n), (61, .int .i64 n), (62, .int .i64 y.i)])
      (B := fun y : Eg => [some ⟨List.map (Value.int .i64) C, false, 1⟩, some ⟨[.int .i64 root, .bool op, .string run, .int .i64 v, .int .i64 f, .int .i64 u, .slice (some ⟨0, 0, none⟩) n n], true, 1⟩, some ⟨[.slice (some ⟨3, 0, none⟩) (pack y.bs).length (pack y.bs).length, .int .i64 (y.bs.length : Int), .int .i64 0], true, 1⟩, some ⟨List.map (Value.int .u8) (pack y.bs), true, 1⟩])
      (R := fun y : Eg => y.i ≤ n ∧ b8 ++ (C.take y.i).flatMap (bitsOf 4) = y.bs)
      (μ := fun y : Eg => n - y.i) ⟨0, b8⟩ (fitsD [0, 1, 2, 11]) ⟨Nat.zero_le _, by simp⟩ ?_
    rintro ⟨i, bs⟩ ⟨g1, g2⟩
    dsimp only at *
    have lbs : bs.length = b8.length + 4 * i := by rw [← g2, List.length_append, ch_len, List.length_take]; omega
    by_cases hi : i < n
    · obtain ⟨q, hq⟩ : ∃ q, C[i]? = some q := ⟨_, List.getElem?_eq_getElem (by omega)⟩
      have hqr := n3 q (List.mem_of_getElem? hq)
      obtain ⟨bs', hbs'⟩ : ∃ z, bs ++ bitsOf 4 q = z := ⟨_, rfl⟩
      have hst : b8 ++ (C.take (i + 1)).flatMap (bitsOf 4) = bs' := by rw [← hbs', ← g2, ch_snoc hq]
      have C9 := ac_uns0 4 q bs bs' (by decide) (by rw [show ((2 : Int) ^ (4 : Int).toNat) = 16 from rfl]; omega) (by omega) hbs'
      repeat' first
        | refine st (h := ok_not_dec2 rfl) ?_
        | refine st (h := ok_load_mapE (f := Value.int .i64) i hq rfl rfl rfl (by omega)) ?_
        | refine st ?_
        | refine stMW [2, 3] C9 ?_
        | refine stm ?_
        | refine run_want rfl rfl ?_
        | refine run_unwant rfl rfl ?_
        | refine run_undef rfl rfl ?_
        | refine run_guard1t rfl rfl (by omega) ?_
        | refine run_guard1f rfl rfl (by omega) ?_
        | refine run_guard0t rfl rfl (by omega) ?_
        | refine run_guard0f rfl rfl (by omega) ?_
        | refine run_guard1 rfl rfl (fun h1 => ?_) (fun h1 => ?_)
        | refine run_guard0 rfl rfl (fun h1 => ?_) (fun h1 => ?_)
        | refine run_guard rfl rfl (fun h1 => ?_) (fun h1 => ?_)
        | refine run_nil ?_
        | refine aw_seq ?_
        | refine aw_region (by kernel_rfl) (Nat.le_of_ble_eq_true rfl) ?_
        | refine aw_block ?_
        | refine aw_cond_t rfl ?_
        | refine aw_cond_f rfl ?_
        | refine aw_cond_tp rfl (by omega) ?_
        | refine aw_cond_fp rfl (by omega) ?_
        | refine aw_cond1 rfl (fun h1 => ?_) (fun h1 => ?_)
        | refine aw_cond rfl (fun h1 => ?_) (fun h1 => ?_)
        | refine aw_skip ?_
        | refine aw_exit ?_
        | refine aw_ret ?_
        | refine pp_ret ?_
        | refine pp_normal ?_
      all_goals first | exact Exists.intro ⟨i + 1, bs'⟩ ⟨fitsD [0, 1, 2, 4], ⟨hi, hst⟩, by dsimp only; omega⟩ | (exfalso; omega)
    · obtain rfl : n = i := by omega
      have he : bs = b8 ++ C.flatMap (bitsOf 4) := by rw [← g2, ← hn, List.take_length]
      have CBy := ac_bytes0 bs
      rw [he, hres] at CBy
      rw [← he] at CBy
      repeat' first
        | refine st (h := ok_not_dec2 rfl) ?_
        | refine st ?_
        | refine stRW [2, 3] CBy ?_
        | refine stm ?_
        | refine run_want rfl rfl ?_
        | refine run_unwant rfl rfl ?_
        | refine run_undef rfl rfl ?_
        | refine run_guard1t rfl rfl (by omega) ?_
        | refine run_guard1f rfl rfl (by omega) ?_
        | refine run_guard0t rfl rfl (by omega) ?_
        | refine run_guard0f rfl rfl (by omega) ?_
        | refine run_guard1 rfl rfl (fun h1 => ?_) (fun h1 => ?_)
        | refine run_guard0 rfl rfl (fun h1 => ?_) (fun h1 => ?_)
        | refine run_guard rfl rfl (fun h1 => ?_) (fun h1 => ?_)
        | refine run_nil ?_
        | refine aw_seq ?_
        | refine aw_region (by kernel_rfl) (Nat.le_of_ble_eq_true rfl) ?_
        | refine aw_block ?_
        | refine aw_cond_t rfl ?_
        | refine aw_cond_f rfl ?_
        | refine aw_cond_tp rfl (by omega) ?_
        | refine aw_cond_fp rfl (by omega) ?_
        | refine aw_cond1 rfl (fun h1 => ?_) (fun h1 => ?_)
        | refine aw_cond rfl (fun h1 => ?_) (fun h1 => ?_)
        | refine aw_skip ?_
        | refine aw_exit ?_
        | refine aw_ret ?_
        | refine pp_ret ?_
        | refine pp_normal ?_
      all_goals first
        | rfl
        | (exfalso; omega)
        | (exfalso; simp only [Bool.not_eq_true', Bool.not_eq_false', decide_eq_true_eq, decide_eq_false_iff_not, Bool.not_false, Bool.not_true] at *; omega)
        | (exfalso; simp_all; first | done | omega)
  · have hm : ofB root op run v f u C = b4 := by
      unfold ofB
      rw [hn, hz, if_pos rfl, ← hb4, ← hb3, ← hb2, ← hb1, ← hb0, wd8]
      simp only [List.append_assoc, List.nil_append, List.append_nil]
      rfl
    rw [hm] at h01 ⊢
    have CBy := ac_bytes0 b4
    clear hm hb4 hb3 hb2 hb1 hb0 hz hx hc
    generalize pkB b4 = res at CBy ⊢
    refine acalls_law Try.func13 rfl rfl rfl ?_
    repeat' first
      | refine st (h := ok_not_dec2 rfl) ?_
      | refine st ?_
      | refine stRW [0] H ?_
      | refine stRW [0] HN ?_
      | refine sdRW [0] H ?_
      | refine sdRW [0] HN ?_
      | refine stMW [] C0 ?_
      | refine stMW [2, 3] C1 ?_
      | refine stMW [2, 4] C2 ?_
      | refine stMW [2, 5] C3 ?_
      | refine stMW [2, 6] C4 ?_
      | refine stMW [2, 7] C5 ?_
      | refine stMW [2, 8] C6 ?_
      | refine stMW [2, 9] C7 ?_
      | refine stMW [2, 10] C8 ?_
      | refine stRW [2, 7] CBy ?_
      | refine stm ?_
      | refine run_want rfl rfl ?_
      | refine run_unwant rfl rfl ?_
      | refine run_undef rfl rfl ?_
      | refine run_guard1t rfl rfl (by omega) ?_
      | refine run_guard1f rfl rfl (by omega) ?_
      | refine run_guard0t rfl rfl (by omega) ?_
      | refine run_guard0f rfl rfl (by omega) ?_
      | refine run_guard1 rfl rfl (fun h1 => ?_) (fun h1 => ?_)
      | refine run_guard0 rfl rfl (fun h1 => ?_) (fun h1 => ?_)
      | refine run_guard rfl rfl (fun h1 => ?_) (fun h1 => ?_)
      | refine run_nil ?_
      | refine aw_seq ?_
      | refine aw_region (by kernel_rfl) (Nat.le_of_ble_eq_true rfl) ?_
      | refine aw_block ?_
      | refine aw_cond_t rfl ?_
      | refine aw_cond_f rfl ?_
      | refine aw_cond_tp rfl (by omega) ?_
      | refine aw_cond_fp rfl (by omega) ?_
      | refine aw_cond1 rfl (fun h1 => ?_) (fun h1 => ?_)
      | refine aw_cond rfl (fun h1 => ?_) (fun h1 => ?_)
      | refine aw_skip ?_
      | refine aw_exit ?_
      | refine aw_ret ?_
      | refine pp_ret ?_
      | refine pp_normal ?_
    all_goals first
      | rfl
      | (exfalso; omega)
      | (exfalso; simp only [Bool.not_eq_true', Bool.not_eq_false', decide_eq_true_eq, decide_eq_false_iff_not, Bool.not_false, Bool.not_true] at *; omega)
      | (exfalso; simp_all; first | done | omega)
end Go.Proofs.Ytfabgdignlfihaa
