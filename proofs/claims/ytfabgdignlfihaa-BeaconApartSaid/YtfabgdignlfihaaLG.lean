/- BeaconApart: the law. -/
import Derived.Test.YtfabgdignlfihaaLZ
import Derived.Test.YtfabgdignlfihaaQ5
import Derived.Test.YtfabgdignlfihaaQ2
import Derived.Test.YtfabgdignlfihaaK4
set_option linter.unusedVariables false
set_option linter.unusedSimpArgs false
namespace Go.Proofs.Ytfabgdignlfihaa
open Go Av
set_option maxRecDepth 20000
set_option maxHeartbeats 16000000 in
theorem law_apart (L : List Int) (hL : ∀ q ∈ L, 0 ≤ q ∧ q ≤ 255) (a b tn st_ : Int) (ha : 0 ≤ a ∧ a ≤ 255) (hb : 0 ≤ b ∧ b ≤ 255) (htn : 0 ≤ tn ∧ tn ≤ 255) (hst : 0 ≤ st_ ∧ st_ ≤ 65535) : ACalls Try.prog 5 [.slice (some ⟨0, 0, none⟩) L.length L.length, .int .u8 a, .int .u8 b, .int .u8 tn, .int .u16 st_] [some ⟨List.map (Value.int .u8) L, false, 1⟩] (.bool true) [none] := by
  obtain ⟨k, hk⟩ : ∃ k, L.length = k := ⟨_, rfl⟩
  rw [hk]
  by_cases hk20 : k ≤ 20
  · refine acalls_of_aw Try.func5 rfl rfl ?_
    refine aw_ghost 6 rfl ?_
    repeat' first
      | refine st (h := ok_not_dec2 rfl) ?_
      | refine sd (h := ok_not_dec2 rfl) ?_
      | refine st ?_
      | refine st_call (ac_awake) ?_
      | refine stm ?_
      | refine run_want rfl rfl ?_
      | refine run_unwant rfl rfl ?_
      | refine run_undef rfl rfl ?_
      | refine run_guard1t rfl rfl (by omega) ?_
      | refine run_guard1f rfl rfl (by omega) ?_
      | refine run_guard0t rfl rfl (by omega) ?_
      | refine run_guard0f rfl rfl (by omega) ?_
      | refine run_guard1 rfl rfl (fun h1 => ?_) (fun h1 => ?_)
      | refine run_guard0 rfl rfl (fun h1 => ?_) (fun h1 => ?_)
      | refine run_guard rfl rfl (fun h1 => ?_) (fun h1 => ?_)
      | refine run_nil ?_
      | refine sd ?_
      | refine sdl ?_
      | refine sdm (n := 1) ?_
      | refine sdm ?_
      | refine sdb ?_
      | refine rund_want rfl rfl ?_
      | refine rund_unwant rfl rfl ?_
      | refine rund_undef rfl rfl ?_
      | refine rund_guard1 rfl rfl (fun h1 => ?_) (fun h1 => ?_)
      | refine rund_guard0 rfl rfl (fun h1 => ?_) (fun h1 => ?_)
      | refine rund_guard rfl rfl (fun h1 => ?_) (fun h1 => ?_)
      | refine rund_nil ?_
      | refine aw_seq ?_
      | refine aw_region (by kernel_rfl) (Nat.le_of_ble_eq_true rfl) ?_
      | refine aw_region_dC (id := 10) [0, 0, 2, 6, 14, 31, 63, 127, 127, 0, 767, 2047] 10 (by (repeat constructor)) (by kernel_rfl) (by kernel_rfl) (by kernel_rfl) (by rfl) ?_
      | refine aw_region_dC (id := 16) [0, 1, 3, 7, 15, 7, 63, 7, 135, 7, 903, 2047, 4095, 8191] 14 (by (repeat constructor)) (by kernel_rfl) (by kernel_rfl) (by kernel_rfl) (by rfl) ?_
      | refine aw_block ?_
      | refine aw_cond_t rfl ?_
      | refine aw_cond_f rfl ?_
      | refine aw_cond_tp rfl (by omega) ?_
      | refine aw_cond_fp rfl (by omega) ?_
      | refine aw_cond1 rfl (fun h1 => ?_) (fun h1 => ?_)
      | refine aw_cond rfl (fun h1 => ?_) (fun h1 => ?_)
      | refine aw_skip ?_
      | refine aw_exit ?_
      | refine aw_ret ?_
      | refine pp_ret ?_
      | refine pp_normal ?_
    refine aw_loopg
      (S := fun y : Ag => [(4, .int .u16 st_), (11, .int .i64 (1 + tn % 32)), (12, .pointer (some ⟨2, 0, none⟩)), (13, .pointer (some ⟨3, 0, none⟩)), (36, .slice (some ⟨0, 0, none⟩) k k), (37, .int .i64 k), (38, .int .i64 y.i)])
      (B := fun y : Ag => [some ⟨List.map (Value.int .u8) L, false, 1⟩, some ⟨y.C.flatMap tcC, true, 6⟩, some ⟨[.int .i64 (a % 32), .int .i64 12, .slice (some ⟨1, 0, none⟩) y.n y.n], true, 1⟩, some ⟨[.int .i64 (b % 32), .int .i64 12, .slice none 0 0], true, 1⟩])
      (R := fun y : Ag => y.i ≤ k ∧ ShT y.C ∧ y.C.length = y.n ∧ y.n ≤ y.i)
      (μ := fun y : Ag => k - y.i) ⟨0, 0, []⟩ (fitsD [0, 1, 2, 3]) ⟨Nat.zero_le _, ShT.nil, rfl, Nat.le_refl _⟩ ?_
    rintro ⟨i, n, C⟩ ⟨g1, g2, g3, g4⟩
    dsimp only at *
    by_cases hi : i < k
    · obtain ⟨q, hq⟩ : ∃ q, L[i]? = some q := ⟨_, List.getElem?_eq_getElem (by omega)⟩
      have hq8 := hL q (List.mem_of_getElem? hq)
      have HS := ac_sharedCell (q % 12)
      have hs12 : 0 ≤ q % 12 ∧ q % 12 < 12 := by omega
      have hchk := g2.chk (node := a % 32) (by omega) (by omega)
      have hfm := form_sh (a % 32) (q % 12) hs12
      obtain ⟨tk, htk⟩ : ∃ tk, takB C (q % 12) 3 = tk := ⟨_, rfl⟩
      cases tk
      · have hput := g2.put hs12 (tak_false htk g2)
        have hpl : (putC (shc (q % 12)) C).length = n + 1 := by rw [putC_len, g3]
        have HA := ac_addP (a % 32) 12 C n g3 (by omega) (q % 12) hchk hfm htk
        clear hchk hfm htk
        repeat' first
          | refine st (h := ok_not_dec2 rfl) ?_
          | refine sd (h := ok_not_dec2 rfl) ?_
          | refine st (h := ok_load_mapE (f := Value.int .u8) i hq rfl rfl rfl (by omega)) ?_
          | refine st ?_
          | refine st_call (ac_awake) ?_
          | refine st_call (HS) ?_
          | refine sd_call (HS) ?_
          | refine sdNR (r' := .tuple #[.agg #[.int .i64 (a % 32), .int .i64 12, .slice (some ⟨4, 0, none⟩) (n + 1) (n + 1)], .int .i64 0]) (N := [some ⟨(putC (shc (q % 12)) C).flatMap tcC, true, 6⟩]) [1] 1 HA ?_
          | refine stm ?_
          | refine run_want rfl rfl ?_
          | refine run_unwant rfl rfl ?_
          | refine run_undef rfl rfl ?_
          | refine run_guard1t rfl rfl (by omega) ?_
          | refine run_guard1f rfl rfl (by omega) ?_
          | refine run_guard0t rfl rfl (by omega) ?_
          | refine run_guard0f rfl rfl (by omega) ?_
          | refine run_guard1 rfl rfl (fun h1 => ?_) (fun h1 => ?_)
          | refine run_guard0 rfl rfl (fun h1 => ?_) (fun h1 => ?_)
          | refine run_guard rfl rfl (fun h1 => ?_) (fun h1 => ?_)
          | refine run_nil ?_
          | refine sd ?_
          | refine sdl ?_
          | refine sdm (n := 1) ?_
          | refine sdm ?_
          | refine sdb ?_
          | refine rund_want rfl rfl ?_
          | refine rund_unwant rfl rfl ?_
          | refine rund_undef rfl rfl ?_
          | refine rund_guard1 rfl rfl (fun h1 => ?_) (fun h1 => ?_)
          | refine rund_guard0 rfl rfl (fun h1 => ?_) (fun h1 => ?_)
          | refine rund_guard rfl rfl (fun h1 => ?_) (fun h1 => ?_)
          | refine rund_nil ?_
          | refine aw_seq ?_
          | refine aw_region (by kernel_rfl) (Nat.le_of_ble_eq_true rfl) ?_
          | refine aw_region_dC (id := 10) [0, 0, 2, 6, 14, 31, 63, 127, 127, 0, 767, 2047] 10 (by (repeat constructor)) (by kernel_rfl) (by kernel_rfl) (by kernel_rfl) (by rfl) ?_
          | refine aw_region_dC (id := 16) [0, 1, 3, 7, 15, 7, 63, 7, 135, 7, 903, 2047, 4095, 8191] 14 (by (repeat constructor)) (by kernel_rfl) (by kernel_rfl) (by kernel_rfl) (by rfl) ?_
          | refine aw_block ?_
          | refine aw_cond_t rfl ?_
          | refine aw_cond_f rfl ?_
          | refine aw_cond_tp rfl (by omega) ?_
          | refine aw_cond_fp rfl (by omega) ?_
          | refine aw_cond1 rfl (fun h1 => ?_) (fun h1 => ?_)
          | refine aw_cond rfl (fun h1 => ?_) (fun h1 => ?_)
          | refine aw_skip ?_
          | refine aw_exit ?_
          | refine aw_ret ?_
          | refine pp_ret ?_
          | refine pp_normal ?_
        all_goals first | exact Exists.intro ⟨i + 1, n + 1, putC (shc (q % 12)) C⟩ ⟨fitsD [0, 4, 2, 3], ⟨hi, hput, hpl, by dsimp only; omega⟩, by dsimp only; omega⟩ | (exfalso; omega)
      · have HA := ac_addT (a % 32) 12 C n g3 (by omega) (q % 12) hchk hfm htk
        clear hchk hfm htk
        repeat' first
          | refine st (h := ok_not_dec2 rfl) ?_
          | refine sd (h := ok_not_dec2 rfl) ?_
          | refine st (h := ok_load_mapE (f := Value.int .u8) i hq rfl rfl rfl (by omega)) ?_
          | refine st ?_
          | refine st_call (ac_awake) ?_
          | refine st_call (HS) ?_
          | refine sd_call (HS) ?_
          | refine sdNR (r' := .tuple #[.agg #[.int .i64 0, .int .i64 0, .slice (some ⟨4, 0, none⟩) 0 0], .int .i64 16]) (N := [some ⟨[], true, 6⟩]) [1] 1 HA ?_
          | refine stm ?_
          | refine run_want rfl rfl ?_
          | refine run_unwant rfl rfl ?_
          | refine run_undef rfl rfl ?_
          | refine run_guard1t rfl rfl (by omega) ?_
          | refine run_guard1f rfl rfl (by omega) ?_
          | refine run_guard0t rfl rfl (by omega) ?_
          | refine run_guard0f rfl rfl (by omega) ?_
          | refine run_guard1 rfl rfl (fun h1 => ?_) (fun h1 => ?_)
          | refine run_guard0 rfl rfl (fun h1 => ?_) (fun h1 => ?_)
          | refine run_guard rfl rfl (fun h1 => ?_) (fun h1 => ?_)
          | refine run_nil ?_
          | refine sd ?_
          | refine sdl ?_
          | refine sdm (n := 1) ?_
          | refine sdm ?_
          | refine sdb ?_
          | refine rund_want rfl rfl ?_
          | refine rund_unwant rfl rfl ?_
          | refine rund_undef rfl rfl ?_
          | refine rund_guard1 rfl rfl (fun h1 => ?_) (fun h1 => ?_)
          | refine rund_guard0 rfl rfl (fun h1 => ?_) (fun h1 => ?_)
          | refine rund_guard rfl rfl (fun h1 => ?_) (fun h1 => ?_)
          | refine rund_nil ?_
          | refine aw_seq ?_
          | refine aw_region (by kernel_rfl) (Nat.le_of_ble_eq_true rfl) ?_
          | refine aw_region_dC (id := 10) [0, 0, 2, 6, 14, 31, 63, 127, 127, 0, 767, 2047] 10 (by (repeat constructor)) (by kernel_rfl) (by kernel_rfl) (by kernel_rfl) (by rfl) ?_
          | refine aw_region_dC (id := 16) [0, 1, 3, 7, 15, 7, 63, 7, 135, 7, 903, 2047, 4095, 8191] 14 (by (repeat constructor)) (by kernel_rfl) (by kernel_rfl) (by kernel_rfl) (by rfl) ?_
          | refine aw_block ?_
          | refine aw_cond_t rfl ?_
          | refine aw_cond_f rfl ?_
          | refine aw_cond_tp rfl (by omega) ?_
          | refine aw_cond_fp rfl (by omega) ?_
          | refine aw_cond1 rfl (fun h1 => ?_) (fun h1 => ?_)
          | refine aw_cond rfl (fun h1 => ?_) (fun h1 => ?_)
          | refine aw_skip ?_
          | refine aw_exit ?_
          | refine aw_ret ?_
          | refine pp_ret ?_
          | refine pp_normal ?_
        all_goals first | exact Exists.intro ⟨i + 1, n, C⟩ ⟨fitsD [0, 1, 2, 3], ⟨hi, g2, g3, by dsimp only; omega⟩, by dsimp only; omega⟩ | (exfalso; omega)
    · obtain rfl : i = k := by omega
      obtain ⟨x, hx⟩ : ∃ x, dueB (a % 32) 12 C st_ (1 + tn % 32) = x := ⟨_, rfl⟩
      obtain ⟨y, hy⟩ : ∃ x, dueB (b % 32) 12 C st_ (1 + tn % 32) = x := ⟨_, rfl⟩
      have H1 := ac_due (a % 32) 12 C n g3 (by omega) st_ (1 + tn % 32) (by omega) x hx
      have H2 := ac_due (b % 32) 12 C n g3 (by omega) st_ (1 + tn % 32) (by omega) y hy
      have hxy : x = true → y = true → a % 32 % (1 + tn % 32) = b % 32 % (1 + tn % 32) := fun h1 h2 => due_same (by rw [hx, h1]) (by rw [hy, h2])
      clear hx hy
      repeat' first
        | refine st (h := ok_not_dec2 rfl) ?_
        | refine sd (h := ok_not_dec2 rfl) ?_
        | refine st ?_
        | refine stRW [1] H1 ?_
        | refine stRW [1] H2 ?_
        | refine sdRW [1] H1 ?_
        | refine sdRW [1] H2 ?_
        | refine stm ?_
        | refine run_want rfl rfl ?_
        | refine run_unwant rfl rfl ?_
        | refine run_undef rfl rfl ?_
        | refine run_guard1t rfl rfl (by omega) ?_
        | refine run_guard1f rfl rfl (by omega) ?_
        | refine run_guard0t rfl rfl (by omega) ?_
        | refine run_guard0f rfl rfl (by omega) ?_
        | refine run_guard1 rfl rfl (fun h1 => ?_) (fun h1 => ?_)
        | refine run_guard0 rfl rfl (fun h1 => ?_) (fun h1 => ?_)
        | refine run_guard rfl rfl (fun h1 => ?_) (fun h1 => ?_)
        | refine run_nil ?_
        | refine sd ?_
        | refine sdl ?_
        | refine sdm (n := 1) ?_
        | refine sdm ?_
        | refine sdb ?_
        | refine rund_want rfl rfl ?_
        | refine rund_unwant rfl rfl ?_
        | refine rund_undef rfl rfl ?_
        | refine rund_guard1 rfl rfl (fun h1 => ?_) (fun h1 => ?_)
        | refine rund_guard0 rfl rfl (fun h1 => ?_) (fun h1 => ?_)
        | refine rund_guard rfl rfl (fun h1 => ?_) (fun h1 => ?_)
        | refine rund_nil ?_
        | refine aw_seq ?_
        | refine aw_region (by kernel_rfl) (Nat.le_of_ble_eq_true rfl) ?_
        | refine aw_region_dC (id := 10) [0, 0, 2, 6, 14, 31, 63, 127, 127, 0, 767, 2047] 10 (by (repeat constructor)) (by kernel_rfl) (by kernel_rfl) (by kernel_rfl) (by rfl) ?_
        | refine aw_region_dC (id := 16) [0, 1, 3, 7, 15, 7, 63, 7, 135, 7, 903, 2047, 4095, 8191] 14 (by (repeat constructor)) (by kernel_rfl) (by kernel_rfl) (by kernel_rfl) (by rfl) ?_
        | refine aw_block ?_
        | refine aw_cond_t rfl ?_
        | refine aw_cond_f rfl ?_
        | refine aw_cond_tp rfl (by omega) ?_
        | refine aw_cond_fp rfl (by omega) ?_
        | refine aw_cond1 rfl (fun h1 => ?_) (fun h1 => ?_)
        | refine aw_cond rfl (fun h1 => ?_) (fun h1 => ?_)
        | refine aw_skip ?_
        | refine aw_exit ?_
        | refine aw_ret ?_
        | refine pp_ret ?_
        | refine pp_normal ?_
      all_goals first | (refine pm_ret _ (renumD [0]) ?_; first | rfl | (show Value.bool _ = Value.bool true; congr 1; grind)) | (exfalso; omega) | (exfalso; grind)
  · refine acalls_law Try.func5 rfl rfl rfl ?_
    repeat' first
      | refine st (h := ok_not_dec2 rfl) ?_
      | refine sd (h := ok_not_dec2 rfl) ?_
      | refine st ?_
      | refine st_call (ac_awake) ?_
      | refine stm ?_
      | refine run_want rfl rfl ?_
      | refine run_unwant rfl rfl ?_
      | refine run_undef rfl rfl ?_
      | refine run_guard1t rfl rfl (by omega) ?_
      | refine run_guard1f rfl rfl (by omega) ?_
      | refine run_guard0t rfl rfl (by omega) ?_
      | refine run_guard0f rfl rfl (by omega) ?_
      | refine run_guard1 rfl rfl (fun h1 => ?_) (fun h1 => ?_)
      | refine run_guard0 rfl rfl (fun h1 => ?_) (fun h1 => ?_)
      | refine run_guard rfl rfl (fun h1 => ?_) (fun h1 => ?_)
      | refine run_nil ?_
      | refine sd ?_
      | refine sdl ?_
      | refine sdm (n := 1) ?_
      | refine sdm ?_
      | refine sdb ?_
      | refine rund_want rfl rfl ?_
      | refine rund_unwant rfl rfl ?_
      | refine rund_undef rfl rfl ?_
      | refine rund_guard1 rfl rfl (fun h1 => ?_) (fun h1 => ?_)
      | refine rund_guard0 rfl rfl (fun h1 => ?_) (fun h1 => ?_)
      | refine rund_guard rfl rfl (fun h1 => ?_) (fun h1 => ?_)
      | refine rund_nil ?_
      | refine aw_seq ?_
      | refine aw_region (by kernel_rfl) (Nat.le_of_ble_eq_true rfl) ?_
      | refine aw_region_dC (id := 10) [0, 0, 2, 6, 14, 31, 63, 127, 127, 0, 767, 2047] 10 (by (repeat constructor)) (by kernel_rfl) (by kernel_rfl) (by kernel_rfl) (by rfl) ?_
      | refine aw_region_dC (id := 16) [0, 1, 3, 7, 15, 7, 63, 7, 135, 7, 903, 2047, 4095, 8191] 14 (by (repeat constructor)) (by kernel_rfl) (by kernel_rfl) (by kernel_rfl) (by rfl) ?_
      | refine aw_block ?_
      | refine aw_cond_t rfl ?_
      | refine aw_cond_f rfl ?_
      | refine aw_cond_tp rfl (by omega) ?_
      | refine aw_cond_fp rfl (by omega) ?_
      | refine aw_cond1 rfl (fun h1 => ?_) (fun h1 => ?_)
      | refine aw_cond rfl (fun h1 => ?_) (fun h1 => ?_)
      | refine aw_skip ?_
      | refine aw_exit ?_
      | refine aw_ret ?_
      | refine pp_ret ?_
      | refine pp_normal ?_
    all_goals first
      | rfl
      | (exfalso; omega)
      | (simp [retOf]; done)
      | (exfalso; simp_all; done)
end Go.Proofs.Ytfabgdignlfihaa
