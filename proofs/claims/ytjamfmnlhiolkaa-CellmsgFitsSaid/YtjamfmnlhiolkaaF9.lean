/- Messages: Encode. -/
import Derived.Test.YtjamfmnlhiolkaaF8
set_option linter.unusedVariables false
set_option linter.unusedSimpArgs false
namespace Go.Proofs.Ytjamfmnlhiolkaa
open Go Av
set_option maxRecDepth 20000
set_option maxHeartbeats 4000000 in
theorem ac_encodeE (k n c cnt : Int) (r : Bool) (S O : List Sp) (s o : Nat) (hs : S.length = s) (ho : O.length = o) (x : Int) (hc : chk k n c cnt r S O = x) (hx : x ≠ 0) : ACalls Try.prog 15 [.agg #[.int .i64 k, .bool r, .int .i64 n, .int .i64 c, .int .i64 cnt, .slice (some ⟨0, 0, none⟩) s s, .slice (some ⟨1, 0, none⟩) o o]] [some ⟨S.flatMap spC, false, 2⟩, some ⟨O.flatMap spC, false, 2⟩] (.tuple #[.string .empty, .int .i64 x]) [none, none] := by
  have HC := ac_check k n c cnt x r S O s o hs ho hc
  refine acalls_law Try.func15 rfl rfl rfl ?_
  repeat' first
    | refine st ?_
    | refine stRW [0, 1] HC ?_
    | refine stm ?_
    | refine run_want rfl rfl ?_
    | refine run_unwant rfl rfl ?_
    | refine run_undef rfl rfl ?_
    | refine run_guard1t rfl rfl (by omega) ?_
    | refine run_guard1f rfl rfl (by omega) ?_
    | refine run_guard0t rfl rfl (by omega) ?_
    | refine run_guard0f rfl rfl (by omega) ?_
    | refine run_guard1 rfl rfl (fun h1 => ?_) (fun h1 => ?_)
    | refine run_guard0 rfl rfl (fun h1 => ?_) (fun h1 => ?_)
    | refine run_guard rfl rfl (fun h1 => ?_) (fun h1 => ?_)
    | refine run_nil ?_
    | refine aw_seq ?_
    | refine aw_region (by kernel_rfl) (Nat.le_of_ble_eq_true rfl) ?_
    | refine aw_block ?_
    | refine aw_cond_t rfl ?_
    | refine aw_cond_f rfl ?_
    | refine aw_cond_tp rfl (by omega) ?_
    | refine aw_cond_fp rfl (by omega) ?_
    | refine aw_cond1 rfl (fun h1 => ?_) (fun h1 => ?_)
    | refine aw_cond rfl (fun h1 => ?_) (fun h1 => ?_)
    | refine aw_skip ?_
    | refine aw_exit ?_
    | refine aw_ret ?_
    | refine pp_ret ?_
    | refine pp_normal ?_
  all_goals first | rfl | (exfalso; omega)
set_option maxHeartbeats 4000000 in
theorem ac_rencodeE (k n c cnt : Int) (r : Bool) (S O : List Sp) (s o : Nat) (hs : S.length = s) (ho : O.length = o) (x : Int) (hc : chk k n c cnt r S O = x) (hx : x ≠ 0) : ACalls Try.prog 16 [.agg #[.int .i64 k, .bool r, .int .i64 n, .int .i64 c, .int .i64 cnt, .slice (some ⟨0, 0, none⟩) s s, .slice (some ⟨1, 0, none⟩) o o]] [some ⟨S.flatMap spC, false, 2⟩, some ⟨O.flatMap spC, false, 2⟩] (.tuple #[.string .empty, .int .i64 x]) [none, none] := by
  have HC := ac_rcheck k n c cnt x r S O s o hs ho hc
  refine acalls_law Try.func16 rfl rfl rfl ?_
  repeat' first
    | refine st ?_
    | refine stRW [0, 1] HC ?_
    | refine stm ?_
    | refine run_want rfl rfl ?_
    | refine run_unwant rfl rfl ?_
    | refine run_undef rfl rfl ?_
    | refine run_guard1t rfl rfl (by omega) ?_
    | refine run_guard1f rfl rfl (by omega) ?_
    | refine run_guard0t rfl rfl (by omega) ?_
    | refine run_guard0f rfl rfl (by omega) ?_
    | refine run_guard1 rfl rfl (fun h1 => ?_) (fun h1 => ?_)
    | refine run_guard0 rfl rfl (fun h1 => ?_) (fun h1 => ?_)
    | refine run_guard rfl rfl (fun h1 => ?_) (fun h1 => ?_)
    | refine run_nil ?_
    | refine aw_seq ?_
    | refine aw_region (by kernel_rfl) (Nat.le_of_ble_eq_true rfl) ?_
    | refine aw_block ?_
    | refine aw_cond_t rfl ?_
    | refine aw_cond_f rfl ?_
    | refine aw_cond_tp rfl (by omega) ?_
    | refine aw_cond_fp rfl (by omega) ?_
    | refine aw_cond1 rfl (fun h1 => ?_) (fun h1 => ?_)
    | refine aw_cond rfl (fun h1 => ?_) (fun h1 => ?_)
    | refine aw_skip ?_
    | refine aw_exit ?_
    | refine aw_ret ?_
    | refine pp_ret ?_
    | refine pp_normal ?_
  all_goals first | rfl | (exfalso; omega)
set_option maxHeartbeats 4000000 in
theorem ac_rencode0 (k n c cnt : Int) (r : Bool) (S O : List Sp) (s o : Nat) (hs : S.length = s) (ho : O.length = o) (hc : chk k n c cnt r S O = 0) : ACalls Try.prog 16 [.agg #[.int .i64 k, .bool r, .int .i64 n, .int .i64 c, .int .i64 cnt, .slice (some ⟨0, 0, none⟩) s s, .slice (some ⟨1, 0, none⟩) o o]] [some ⟨S.flatMap spC, false, 2⟩, some ⟨O.flatMap spC, false, 2⟩] (.tuple #[.string (pkB (msgB k n c cnt r S O)), .int .i64 0]) [none, none] := by
  have HC := ac_rcheck k n c cnt 0 r S O s o hs ho hc
  have hz := chk_zero hc
  obtain ⟨hk, hn, hcc, hcnt, ⟨h8, h9⟩, ⟨hS, hO⟩, _⟩ := hz
  rw [hs] at h8
  rw [ho] at h9
  obtain ⟨b0, hb0⟩ : ∃ z : List Int, [] = z := ⟨_, rfl⟩
  have lb0 : b0.length = 0 := by rw [← hb0]; rfl
  obtain ⟨b1, hb1⟩ : ∃ z, b0 ++ bitsOf 3 k = z := ⟨_, rfl⟩
  have lb1 : b1.length = b0.length + 3 := by rw [← hb1, List.length_append, bitsOf_len]
  have Cb1 := ac_runs0 3 k b0 b1 (by decide) (by rw [show ((2 : Int) ^ (3 : Int).toNat) = 8 from rfl]; omega) (by omega) hb1
  obtain ⟨b2, hb2⟩ : ∃ z, b1 ++ bitsOf 1 (if r = true then 1 else 0) = z := ⟨_, rfl⟩
  have lb2 : b2.length = b1.length + 1 := by rw [← hb2, List.length_append, bitsOf_len]
  have Cb2 := ac_rflag0 r b1 b2 (by omega) hb2
  obtain ⟨b3, hb3⟩ : ∃ z, b2 ++ bitsOf 8 n = z := ⟨_, rfl⟩
  have lb3 : b3.length = b2.length + 8 := by rw [← hb3, List.length_append, bitsOf_len]
  have Cb3 := ac_runs0 8 n b2 b3 (by decide) (by rw [show ((2 : Int) ^ (8 : Int).toNat) = 256 from rfl]; omega) (by omega) hb3
  obtain ⟨b4, hb4⟩ : ∃ z, b3 ++ bitsOf 2 c = z := ⟨_, rfl⟩
  have lb4 : b4.length = b3.length + 2 := by rw [← hb4, List.length_append, bitsOf_len]
  have Cb4 := ac_runs0 2 c b3 b4 (by decide) (by rw [show ((2 : Int) ^ (2 : Int).toNat) = 4 from rfl]; omega) (by omega) hb4
  obtain ⟨b5, hb5⟩ : ∃ z, b4 ++ bitsOf 10 cnt = z := ⟨_, rfl⟩
  have lb5 : b5.length = b4.length + 10 := by rw [← hb5, List.length_append, bitsOf_len]
  have Cb5 := ac_runs0 10 cnt b4 b5 (by decide) (by rw [show ((2 : Int) ^ (10 : Int).toNat) = 1024 from rfl]; omega) (by omega) hb5
  obtain ⟨b6, hb6⟩ : ∃ z, b5 ++ liB S = z := ⟨_, rfl⟩
  obtain ⟨b7, hb7⟩ : ∃ z, b6 ++ liB O = z := ⟨_, rfl⟩
  have lb6 : b6.length = b5.length + (4 + 13 * s) := by rw [← hb6, List.length_append, liB_len, hs]
  have lb7 : b7.length = b6.length + (4 + 13 * o) := by rw [← hb7, List.length_append, liB_len, ho]
  have hm : msgB k n c cnt r S O = b7 := by rw [← hb7, ← hb6, ← hb5, ← hb4, ← hb3, ← hb2, ← hb1, ← hb0]; rfl
  rw [hm]
  have C0 := ac_rnewW0 b0 hb0
  have CS := ac_rwrite S s hs h8 hS b5 b6 (by omega) hb6
  have CO := ac_rwrite O o ho h9 hO b6 b7 (by omega) hb7
  have CB := ac_rbytes0 b7 (by omega) (by rw [← hm]; exact msgB_01 k n c cnt r S O)
  generalize pkB b7 = res at CB ⊢
  clear hm hb7 hb6 hb5 hb4 hb3 hb2 hb1 hb0 hS hO
  refine acalls_law Try.func16 rfl rfl rfl ?_
  repeat' first
    | refine st ?_
    | refine stRW [0, 1] HC ?_
    | refine stMW [] C0 ?_
    | refine stMW [3, 4] Cb1 ?_
    | refine stMW [3, 5] Cb2 ?_
    | refine stMW [3, 6] Cb3 ?_
    | refine stMW [3, 7] Cb4 ?_
    | refine stMW [3, 8] Cb5 ?_
    | refine stMW [3, 9, 0] CS ?_
    | refine stMW [3, 10, 1] CO ?_
    | refine stRW [3, 11] CB ?_
    | refine stm ?_
    | refine run_want rfl rfl ?_
    | refine run_unwant rfl rfl ?_
    | refine run_undef rfl rfl ?_
    | refine run_guard1t rfl rfl (by omega) ?_
    | refine run_guard1f rfl rfl (by omega) ?_
    | refine run_guard0t rfl rfl (by omega) ?_
    | refine run_guard0f rfl rfl (by omega) ?_
    | refine run_guard1 rfl rfl (fun h1 => ?_) (fun h1 => ?_)
    | refine run_guard0 rfl rfl (fun h1 => ?_) (fun h1 => ?_)
    | refine run_guard rfl rfl (fun h1 => ?_) (fun h1 => ?_)
    | refine run_nil ?_
    | refine aw_seq ?_
    | refine aw_region (by kernel_rfl) (Nat.le_of_ble_eq_true rfl) ?_
    | refine aw_block ?_
    | refine aw_cond_t rfl ?_
    | refine aw_cond_f rfl ?_
    | refine aw_cond_tp rfl (by omega) ?_
    | refine aw_cond_fp rfl (by omega) ?_
    | refine aw_cond1 rfl (fun h1 => ?_) (fun h1 => ?_)
    | refine aw_cond rfl (fun h1 => ?_) (fun h1 => ?_)
    | refine aw_skip ?_
    | refine aw_exit ?_
    | refine aw_ret ?_
    | refine pp_ret ?_
    | refine pp_normal ?_
  all_goals first | rfl | (exfalso; omega)
set_option maxHeartbeats 4000000 in
theorem ac_encode0 (k n c cnt : Int) (r : Bool) (S O : List Sp) (s o : Nat) (hs : S.length = s) (ho : O.length = o) (hc : chk k n c cnt r S O = 0) : ACalls Try.prog 15 [.agg #[.int .i64 k, .bool r, .int .i64 n, .int .i64 c, .int .i64 cnt, .slice (some ⟨0, 0, none⟩) s s, .slice (some ⟨1, 0, none⟩) o o]] [some ⟨S.flatMap spC, false, 2⟩, some ⟨O.flatMap spC, false, 2⟩] (.tuple #[.string (pkB (msgB k n c cnt r S O)), .int .i64 0]) [none, none] := by
  have HC := ac_check k n c cnt 0 r S O s o hs ho hc
  have hz := chk_zero hc
  obtain ⟨hk, hn, hcc, hcnt, ⟨h8, h9⟩, ⟨hS, hO⟩, _⟩ := hz
  rw [hs] at h8
  rw [ho] at h9
  obtain ⟨b0, hb0⟩ : ∃ z : List Int, [] = z := ⟨_, rfl⟩
  have lb0 : b0.length = 0 := by rw [← hb0]; rfl
  obtain ⟨b1, hb1⟩ : ∃ z, b0 ++ bitsOf 3 k = z := ⟨_, rfl⟩
  have lb1 : b1.length = b0.length + 3 := by rw [← hb1, List.length_append, bitsOf_len]
  have Cb1 := ac_uns0 3 k b0 b1 (by decide) (by rw [show ((2 : Int) ^ (3 : Int).toNat) = 8 from rfl]; omega) (by omega) hb1
  obtain ⟨b2, hb2⟩ : ∃ z, b1 ++ bitsOf 1 (if r = true then 1 else 0) = z := ⟨_, rfl⟩
  have lb2 : b2.length = b1.length + 1 := by rw [← hb2, List.length_append, bitsOf_len]
  have Cb2 := ac_flag0 r b1 b2 (by omega) hb2
  obtain ⟨b3, hb3⟩ : ∃ z, b2 ++ bitsOf 8 n = z := ⟨_, rfl⟩
  have lb3 : b3.length = b2.length + 8 := by rw [← hb3, List.length_append, bitsOf_len]
  have Cb3 := ac_uns0 8 n b2 b3 (by decide) (by rw [show ((2 : Int) ^ (8 : Int).toNat) = 256 from rfl]; omega) (by omega) hb3
  obtain ⟨b4, hb4⟩ : ∃ z, b3 ++ bitsOf 2 c = z := ⟨_, rfl⟩
  have lb4 : b4.length = b3.length + 2 := by rw [← hb4, List.length_append, bitsOf_len]
  have Cb4 := ac_uns0 2 c b3 b4 (by decide) (by rw [show ((2 : Int) ^ (2 : Int).toNat) = 4 from rfl]; omega) (by omega) hb4
  obtain ⟨b5, hb5⟩ : ∃ z, b4 ++ bitsOf 10 cnt = z := ⟨_, rfl⟩
  have lb5 : b5.length = b4.length + 10 := by rw [← hb5, List.length_append, bitsOf_len]
  have Cb5 := ac_uns0 10 cnt b4 b5 (by decide) (by rw [show ((2 : Int) ^ (10 : Int).toNat) = 1024 from rfl]; omega) (by omega) hb5
  obtain ⟨b6, hb6⟩ : ∃ z, b5 ++ liB S = z := ⟨_, rfl⟩
  obtain ⟨b7, hb7⟩ : ∃ z, b6 ++ liB O = z := ⟨_, rfl⟩
  have lb6 : b6.length = b5.length + (4 + 13 * s) := by rw [← hb6, List.length_append, liB_len, hs]
  have lb7 : b7.length = b6.length + (4 + 13 * o) := by rw [← hb7, List.length_append, liB_len, ho]
  have hm : msgB k n c cnt r S O = b7 := by rw [← hb7, ← hb6, ← hb5, ← hb4, ← hb3, ← hb2, ← hb1, ← hb0]; rfl
  rw [hm]
  have C0 := ac_newW0 b0 hb0
  have CB := ac_bytes0 b7
  generalize pkB b7 = res at CB ⊢
  clear hm hb5 hb4 hb3 hb2 hb1 hb0
  refine acalls_law Try.func15 rfl rfl rfl ?_
  repeat' first
    | refine st ?_
    | refine stRW [0, 1] HC ?_
    | refine stMW [] C0 ?_
    | refine stMW [3, 4] Cb1 ?_
    | refine stMW [3, 5] Cb2 ?_
    | refine stMW [3, 6] Cb3 ?_
    | refine stMW [3, 7] Cb4 ?_
    | refine stMW [3, 8] Cb5 ?_
    | refine stm ?_
    | refine run_want rfl rfl ?_
    | refine run_unwant rfl rfl ?_
    | refine run_undef rfl rfl ?_
    | refine run_guard1t rfl rfl (by omega) ?_
    | refine run_guard1f rfl rfl (by omega) ?_
    | refine run_guard0t rfl rfl (by omega) ?_
    | refine run_guard0f rfl rfl (by omega) ?_
    | refine run_guard1 rfl rfl (fun h1 => ?_) (fun h1 => ?_)
    | refine run_guard0 rfl rfl (fun h1 => ?_) (fun h1 => ?_)
    | refine run_guard rfl rfl (fun h1 => ?_) (fun h1 => ?_)
    | refine run_nil ?_
    | refine aw_seq ?_
    | refine aw_region (by kernel_rfl) (Nat.le_of_ble_eq_true rfl) ?_
    | refine aw_block ?_
    | refine aw_cond_t rfl ?_
    | refine aw_cond_f rfl ?_
    | refine aw_cond_tp rfl (by omega) ?_
    | refine aw_cond_fp rfl (by omega) ?_
    | refine aw_cond1 rfl (fun h1 => ?_) (fun h1 => ?_)
    | refine aw_cond rfl (fun h1 => ?_) (fun h1 => ?_)
    | refine aw_skip ?_
    | refine aw_exit ?_
    | refine aw_ret ?_
    | refine pp_ret ?_
    | refine pp_normal ?_
  clear HC C0 Cb1 Cb2 Cb3 Cb4 Cb5
  refine aw_loopg
    (S := fun y : Mg => [(5, .pointer (some ⟨2, 0, none⟩)), (40, .slice (some ⟨4, 0, none⟩) 2 2), (41, .int .i64 2), (42, .int .i64 y.i)])
    (B := fun y : Mg => [some ⟨S.flatMap spC, false, 2⟩, some ⟨O.flatMap spC, false, 2⟩, some ⟨[.slice (some ⟨3, 0, none⟩) (pack y.b).length (pack y.b).length, .int .i64 (y.b.length : Int), .int .i64 0], true, 1⟩, some ⟨List.map (Value.int .u8) (pack y.b), true, 1⟩, some ⟨[.slice (some ⟨0, 0, none⟩) s s, .slice (some ⟨1, 0, none⟩) o o], true, 1⟩])
    (R := fun y : Mg => (y.i = 0 ∧ y.b = b5) ∨ (y.i = 1 ∧ y.b = b6) ∨ (y.i = 2 ∧ y.b = b7))
    (μ := fun y : Mg => 2 - y.i) ⟨0, b5⟩ (fitsD [0, 1, 3, 9, 10]) (.inl ⟨rfl, rfl⟩) ?_
  rintro ⟨i0, bi⟩ hR
  dsimp only at hR ⊢
  rcases hR with ⟨rfl, rfl⟩ | ⟨rfl, rfl⟩ | ⟨rfl, rfl⟩
  · obtain ⟨c0, hc0⟩ : ∃ c0, bi ++ bitsOf 4 s = c0 := ⟨_, rfl⟩
    have hl0 : c0.length = bi.length + 4 := by rw [← hc0, List.length_append, bitsOf_len]
    have H0 := ac_uns0 4 s bi c0 (by decide) (by rw [show ((2 : Int) ^ (4 : Int).toNat) = 16 from rfl]; omega) (by omega) hc0
    repeat' first
      | refine st ?_
      | refine stMW [2, 3] H0 ?_
      | refine stm ?_
      | refine run_want rfl rfl ?_
      | refine run_unwant rfl rfl ?_
      | refine run_undef rfl rfl ?_
      | refine run_guard1t rfl rfl (by omega) ?_
      | refine run_guard1f rfl rfl (by omega) ?_
      | refine run_guard0t rfl rfl (by omega) ?_
      | refine run_guard0f rfl rfl (by omega) ?_
      | refine run_guard1 rfl rfl (fun h1 => ?_) (fun h1 => ?_)
      | refine run_guard0 rfl rfl (fun h1 => ?_) (fun h1 => ?_)
      | refine run_guard rfl rfl (fun h1 => ?_) (fun h1 => ?_)
      | refine run_nil ?_
      | refine aw_seq ?_
      | refine aw_region (by kernel_rfl) (Nat.le_of_ble_eq_true rfl) ?_
      | refine aw_block ?_
      | refine aw_cond_t rfl ?_
      | refine aw_cond_f rfl ?_
      | refine aw_cond_tp rfl (by omega) ?_
      | refine aw_cond_fp rfl (by omega) ?_
      | refine aw_cond1 rfl (fun h1 => ?_) (fun h1 => ?_)
      | refine aw_cond rfl (fun h1 => ?_) (fun h1 => ?_)
      | refine aw_skip ?_
      | refine aw_exit ?_
      | refine aw_ret ?_
      | refine pp_ret ?_
      | refine pp_normal ?_
    clear H0
    refine aw_loopg
      (S := fun y : Mg => [(5, .pointer (some ⟨2, 0, none⟩)), (40, .slice (some ⟨4, 0, none⟩) 2 2), (41, .int .i64 2), (42, .int .i64 0), (50, .slice (some ⟨0, 0, none⟩) s s), (51, .int .i64 s), (52, .int .i64 y.i)])
      (B := fun y : Mg => [some ⟨S.flatMap spC, false, 2⟩, some ⟨O.flatMap spC, false, 2⟩, some ⟨[.slice (some ⟨3, 0, none⟩) (pack y.b).length (pack y.b).length, .int .i64 (y.b.length : Int), .int .i64 0], true, 1⟩, some ⟨List.map (Value.int .u8) (pack y.b), true, 1⟩, some ⟨[.slice (some ⟨0, 0, none⟩) s s, .slice (some ⟨1, 0, none⟩) o o], true, 1⟩])
      (R := fun y : Mg => y.i ≤ s ∧ y.b = c0 ++ spB (S.take y.i))
      (μ := fun y : Mg => s - y.i) ⟨0, c0⟩ (fitsD [0, 1, 2, 5, 4]) ⟨Nat.zero_le _, by simp [spB]⟩ ?_
    rintro ⟨i, cur⟩ ⟨g1, g2⟩
    dsimp only at *
    by_cases hi : i < s
    · obtain ⟨⟨a, e, u⟩, hq⟩ : ∃ q, S[i]? = some q := ⟨_, List.getElem?_eq_getElem (by omega)⟩
      obtain ⟨hr, _⟩ := spE_at hS hq
      have hbl : cur.length = c0.length + 13 * i := by rw [g2, List.length_append, spB_len, List.length_take]; omega
      obtain ⟨c1, hc1⟩ : ∃ c1, cur ++ bitsOf 9 a = c1 := ⟨_, rfl⟩
      have hl1 : c1.length = cur.length + 9 := by rw [← hc1, List.length_append, bitsOf_len]
      obtain ⟨c2, hc2⟩ : ∃ c2, c1 ++ bitsOf 4 e = c2 := ⟨_, rfl⟩
      have hn : c2 = c0 ++ spB (S.take (i + 1)) := by rw [← hc2, ← hc1, g2]; exact spB_snoc hq c0
      have HX := ac_uns0 9 a cur c1 (by decide) (by rw [show ((2 : Int) ^ (9 : Int).toNat) = 512 from rfl]; omega) (by omega) hc1
      have HY := ac_uns0 4 e c1 c2 (by decide) (by rw [show ((2 : Int) ^ (4 : Int).toNat) = 16 from rfl]; omega) (by omega) hc2
      repeat' first
        | refine st (h := ok_load_rowsE (f := spC) (cs := [.int .i64 a, .int .i64 e]) i (fun _ => rfl) hq rfl rfl rfl rfl (by omega)) ?_
        | refine st ?_
        | refine stMW [2, 3] HX ?_
        | refine stMW [2, 6] HY ?_
        | refine stm ?_
        | refine run_want rfl rfl ?_
        | refine run_unwant rfl rfl ?_
        | refine run_undef rfl rfl ?_
        | refine run_guard1t rfl rfl (by omega) ?_
        | refine run_guard1f rfl rfl (by omega) ?_
        | refine run_guard0t rfl rfl (by omega) ?_
        | refine run_guard0f rfl rfl (by omega) ?_
        | refine run_guard1 rfl rfl (fun h1 => ?_) (fun h1 => ?_)
        | refine run_guard0 rfl rfl (fun h1 => ?_) (fun h1 => ?_)
        | refine run_guard rfl rfl (fun h1 => ?_) (fun h1 => ?_)
        | refine run_nil ?_
        | refine aw_seq ?_
        | refine aw_region (by kernel_rfl) (Nat.le_of_ble_eq_true rfl) ?_
        | refine aw_block ?_
        | refine aw_cond_t rfl ?_
        | refine aw_cond_f rfl ?_
        | refine aw_cond_tp rfl (by omega) ?_
        | refine aw_cond_fp rfl (by omega) ?_
        | refine aw_cond1 rfl (fun h1 => ?_) (fun h1 => ?_)
        | refine aw_cond rfl (fun h1 => ?_) (fun h1 => ?_)
        | refine aw_skip ?_
        | refine aw_exit ?_
        | refine aw_ret ?_
        | refine pp_ret ?_
        | refine pp_normal ?_
      all_goals first | exact Exists.intro ⟨i + 1, c2⟩ ⟨fitsD [0, 1, 2, 7, 4], ⟨hi, hn⟩, by dsimp only; omega⟩ | (exfalso; omega)
    · have e1 : cur = b6 := by
        rw [g2, ← hb6, ← hc0, liB, hs, List.append_assoc, List.take_of_length_le (show S.length ≤ i by omega)]
      repeat' first
        | refine st ?_
        | refine stm ?_
        | refine run_want rfl rfl ?_
        | refine run_unwant rfl rfl ?_
        | refine run_undef rfl rfl ?_
        | refine run_guard1t rfl rfl (by omega) ?_
        | refine run_guard1f rfl rfl (by omega) ?_
        | refine run_guard0t rfl rfl (by omega) ?_
        | refine run_guard0f rfl rfl (by omega) ?_
        | refine run_guard1 rfl rfl (fun h1 => ?_) (fun h1 => ?_)
        | refine run_guard0 rfl rfl (fun h1 => ?_) (fun h1 => ?_)
        | refine run_guard rfl rfl (fun h1 => ?_) (fun h1 => ?_)
        | refine run_nil ?_
        | refine aw_seq ?_
        | refine aw_region (by kernel_rfl) (Nat.le_of_ble_eq_true rfl) ?_
        | refine aw_block ?_
        | refine aw_cond_t rfl ?_
        | refine aw_cond_f rfl ?_
        | refine aw_cond_tp rfl (by omega) ?_
        | refine aw_cond_fp rfl (by omega) ?_
        | refine aw_cond1 rfl (fun h1 => ?_) (fun h1 => ?_)
        | refine aw_cond rfl (fun h1 => ?_) (fun h1 => ?_)
        | refine aw_skip ?_
        | refine aw_exit ?_
        | refine aw_ret ?_
        | refine pp_ret ?_
        | refine pp_normal ?_
      all_goals first | exact Exists.intro ⟨1, cur⟩ ⟨fitsD [0, 1, 2, 3, 4], .inr (.inl ⟨rfl, e1⟩), by dsimp only; omega⟩ | (exfalso; omega)
  · obtain ⟨c0, hc0⟩ : ∃ c0, bi ++ bitsOf 4 o = c0 := ⟨_, rfl⟩
    have hl0 : c0.length = bi.length + 4 := by rw [← hc0, List.length_append, bitsOf_len]
    have H0 := ac_uns0 4 o bi c0 (by decide) (by rw [show ((2 : Int) ^ (4 : Int).toNat) = 16 from rfl]; omega) (by omega) hc0
    repeat' first
      | refine st ?_
      | refine stMW [2, 3] H0 ?_
      | refine stm ?_
      | refine run_want rfl rfl ?_
      | refine run_unwant rfl rfl ?_
      | refine run_undef rfl rfl ?_
      | refine run_guard1t rfl rfl (by omega) ?_
      | refine run_guard1f rfl rfl (by omega) ?_
      | refine run_guard0t rfl rfl (by omega) ?_
      | refine run_guard0f rfl rfl (by omega) ?_
      | refine run_guard1 rfl rfl (fun h1 => ?_) (fun h1 => ?_)
      | refine run_guard0 rfl rfl (fun h1 => ?_) (fun h1 => ?_)
      | refine run_guard rfl rfl (fun h1 => ?_) (fun h1 => ?_)
      | refine run_nil ?_
      | refine aw_seq ?_
      | refine aw_region (by kernel_rfl) (Nat.le_of_ble_eq_true rfl) ?_
      | refine aw_block ?_
      | refine aw_cond_t rfl ?_
      | refine aw_cond_f rfl ?_
      | refine aw_cond_tp rfl (by omega) ?_
      | refine aw_cond_fp rfl (by omega) ?_
      | refine aw_cond1 rfl (fun h1 => ?_) (fun h1 => ?_)
      | refine aw_cond rfl (fun h1 => ?_) (fun h1 => ?_)
      | refine aw_skip ?_
      | refine aw_exit ?_
      | refine aw_ret ?_
      | refine pp_ret ?_
      | refine pp_normal ?_
    clear H0
    refine aw_loopg
      (S := fun y : Mg => [(5, .pointer (some ⟨2, 0, none⟩)), (40, .slice (some ⟨4, 0, none⟩) 2 2), (41, .int .i64 2), (42, .int .i64 1), (50, .slice (some ⟨1, 0, none⟩) o o), (51, .int .i64 o), (52, .int .i64 y.i)])
      (B := fun y : Mg => [some ⟨S.flatMap spC, false, 2⟩, some ⟨O.flatMap spC, false, 2⟩, some ⟨[.slice (some ⟨3, 0, none⟩) (pack y.b).length (pack y.b).length, .int .i64 (y.b.length : Int), .int .i64 0], true, 1⟩, some ⟨List.map (Value.int .u8) (pack y.b), true, 1⟩, some ⟨[.slice (some ⟨0, 0, none⟩) s s, .slice (some ⟨1, 0, none⟩) o o], true, 1⟩])
      (R := fun y : Mg => y.i ≤ o ∧ y.b = c0 ++ spB (O.take y.i))
      (μ := fun y : Mg => o - y.i) ⟨0, c0⟩ (fitsD [0, 1, 2, 5, 4]) ⟨Nat.zero_le _, by simp [spB]⟩ ?_
    rintro ⟨i, cur⟩ ⟨g1, g2⟩
    dsimp only at *
    by_cases hi : i < o
    · obtain ⟨⟨a, e, u⟩, hq⟩ : ∃ q, O[i]? = some q := ⟨_, List.getElem?_eq_getElem (by omega)⟩
      obtain ⟨hr, _⟩ := spE_at hO hq
      have hbl : cur.length = c0.length + 13 * i := by rw [g2, List.length_append, spB_len, List.length_take]; omega
      obtain ⟨c1, hc1⟩ : ∃ c1, cur ++ bitsOf 9 a = c1 := ⟨_, rfl⟩
      have hl1 : c1.length = cur.length + 9 := by rw [← hc1, List.length_append, bitsOf_len]
      obtain ⟨c2, hc2⟩ : ∃ c2, c1 ++ bitsOf 4 e = c2 := ⟨_, rfl⟩
      have hn : c2 = c0 ++ spB (O.take (i + 1)) := by rw [← hc2, ← hc1, g2]; exact spB_snoc hq c0
      have HX := ac_uns0 9 a cur c1 (by decide) (by rw [show ((2 : Int) ^ (9 : Int).toNat) = 512 from rfl]; omega) (by omega) hc1
      have HY := ac_uns0 4 e c1 c2 (by decide) (by rw [show ((2 : Int) ^ (4 : Int).toNat) = 16 from rfl]; omega) (by omega) hc2
      repeat' first
        | refine st (h := ok_load_rowsE (f := spC) (cs := [.int .i64 a, .int .i64 e]) i (fun _ => rfl) hq rfl rfl rfl rfl (by omega)) ?_
        | refine st ?_
        | refine stMW [2, 3] HX ?_
        | refine stMW [2, 6] HY ?_
        | refine stm ?_
        | refine run_want rfl rfl ?_
        | refine run_unwant rfl rfl ?_
        | refine run_undef rfl rfl ?_
        | refine run_guard1t rfl rfl (by omega) ?_
        | refine run_guard1f rfl rfl (by omega) ?_
        | refine run_guard0t rfl rfl (by omega) ?_
        | refine run_guard0f rfl rfl (by omega) ?_
        | refine run_guard1 rfl rfl (fun h1 => ?_) (fun h1 => ?_)
        | refine run_guard0 rfl rfl (fun h1 => ?_) (fun h1 => ?_)
        | refine run_guard rfl rfl (fun h1 => ?_) (fun h1 => ?_)
        | refine run_nil ?_
        | refine aw_seq ?_
        | refine aw_region (by kernel_rfl) (Nat.le_of_ble_eq_true rfl) ?_
        | refine aw_block ?_
        | refine aw_cond_t rfl ?_
        | refine aw_cond_f rfl ?_
        | refine aw_cond_tp rfl (by omega) ?_
        | refine aw_cond_fp rfl (by omega) ?_
        | refine aw_cond1 rfl (fun h1 => ?_) (fun h1 => ?_)
        | refine aw_cond rfl (fun h1 => ?_) (fun h1 => ?_)
        | refine aw_skip ?_
        | refine aw_exit ?_
        | refine aw_ret ?_
        | refine pp_ret ?_
        | refine pp_normal ?_
      all_goals first | exact Exists.intro ⟨i + 1, c2⟩ ⟨fitsD [0, 1, 2, 7, 4], ⟨hi, hn⟩, by dsimp only; omega⟩ | (exfalso; omega)
    · have e1 : cur = b7 := by
        rw [g2, ← hb7, ← hc0, liB, ho, List.append_assoc, List.take_of_length_le (show O.length ≤ i by omega)]
      repeat' first
        | refine st ?_
        | refine stm ?_
        | refine run_want rfl rfl ?_
        | refine run_unwant rfl rfl ?_
        | refine run_undef rfl rfl ?_
        | refine run_guard1t rfl rfl (by omega) ?_
        | refine run_guard1f rfl rfl (by omega) ?_
        | refine run_guard0t rfl rfl (by omega) ?_
        | refine run_guard0f rfl rfl (by omega) ?_
        | refine run_guard1 rfl rfl (fun h1 => ?_) (fun h1 => ?_)
        | refine run_guard0 rfl rfl (fun h1 => ?_) (fun h1 => ?_)
        | refine run_guard rfl rfl (fun h1 => ?_) (fun h1 => ?_)
        | refine run_nil ?_
        | refine aw_seq ?_
        | refine aw_region (by kernel_rfl) (Nat.le_of_ble_eq_true rfl) ?_
        | refine aw_block ?_
        | refine aw_cond_t rfl ?_
        | refine aw_cond_f rfl ?_
        | refine aw_cond_tp rfl (by omega) ?_
        | refine aw_cond_fp rfl (by omega) ?_
        | refine aw_cond1 rfl (fun h1 => ?_) (fun h1 => ?_)
        | refine aw_cond rfl (fun h1 => ?_) (fun h1 => ?_)
        | refine aw_skip ?_
        | refine aw_exit ?_
        | refine aw_ret ?_
        | refine pp_ret ?_
        | refine pp_normal ?_
      all_goals first | exact Exists.intro ⟨2, cur⟩ ⟨fitsD [0, 1, 2, 3, 4], .inr (.inr ⟨rfl, e1⟩), by dsimp only; omega⟩ | (exfalso; omega)
  · skip
    repeat' first
      | refine st ?_
      | refine stRW [2, 3] CB ?_
      | refine stm ?_
      | refine run_want rfl rfl ?_
      | refine run_unwant rfl rfl ?_
      | refine run_undef rfl rfl ?_
      | refine run_guard1t rfl rfl (by omega) ?_
      | refine run_guard1f rfl rfl (by omega) ?_
      | refine run_guard0t rfl rfl (by omega) ?_
      | refine run_guard0f rfl rfl (by omega) ?_
      | refine run_guard1 rfl rfl (fun h1 => ?_) (fun h1 => ?_)
      | refine run_guard0 rfl rfl (fun h1 => ?_) (fun h1 => ?_)
      | refine run_guard rfl rfl (fun h1 => ?_) (fun h1 => ?_)
      | refine run_nil ?_
      | refine aw_seq ?_
      | refine aw_region (by kernel_rfl) (Nat.le_of_ble_eq_true rfl) ?_
      | refine aw_block ?_
      | refine aw_cond_t rfl ?_
      | refine aw_cond_f rfl ?_
      | refine aw_cond_tp rfl (by omega) ?_
      | refine aw_cond_fp rfl (by omega) ?_
      | refine aw_cond1 rfl (fun h1 => ?_) (fun h1 => ?_)
      | refine aw_cond rfl (fun h1 => ?_) (fun h1 => ?_)
      | refine aw_skip ?_
      | refine aw_exit ?_
      | refine aw_ret ?_
      | refine pp_ret ?_
      | refine pp_normal ?_
    all_goals first | rfl | (exfalso; omega)
end Go.Proofs.Ytjamfmnlhiolkaa
