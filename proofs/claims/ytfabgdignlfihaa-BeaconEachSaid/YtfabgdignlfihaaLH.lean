/- BeaconEach: the law. -/
import Derived.Test.YtfabgdignlfihaaLZ
import Derived.Test.YtfabgdignlfihaaQ5
import Derived.Test.YtfabgdignlfihaaQ6
import Derived.Test.YtfabgdignlfihaaK4
set_option linter.unusedVariables false
set_option linter.unusedSimpArgs false
namespace Go.Proofs.Ytfabgdignlfihaa
open Go Av
set_option maxRecDepth 20000
set_option maxHeartbeats 16000000 in
theorem law_each (L : List Int) (hL : ∀ q ∈ L, 0 ≤ q ∧ q ≤ 255) (nd tn st_ : Int) (hnd : 0 ≤ nd ∧ nd ≤ 255) (htn : 0 ≤ tn ∧ tn ≤ 255) (hst : 0 ≤ st_ ∧ st_ ≤ 65535) : ACalls Try.prog 6 [.slice (some ⟨0, 0, none⟩) L.length L.length, .int .u8 nd, .int .u8 tn, .int .u16 st_] [some ⟨List.map (Value.int .u8) L, false, 1⟩] (.bool true) [none] := by
  obtain ⟨k, hk⟩ : ∃ k, L.length = k := ⟨_, rfl⟩
  rw [hk]
  by_cases hk20 : k ≤ 20
  · refine acalls_of_aw Try.func6 rfl rfl ?_
    refine aw_ghost 6 rfl ?_
    repeat' first
      | refine st (h := ok_not_dec2 rfl) ?_
      | refine sd (h := ok_not_dec2 rfl) ?_
      | refine st ?_
      | refine st_call (ac_awake) ?_
      | refine stm ?_
      | refine run_want rfl rfl ?_
      | refine run_unwant rfl rfl ?_
      | refine run_undef rfl rfl ?_
      | refine run_guard1t rfl rfl (by omega) ?_
      | refine run_guard1f rfl rfl (by omega) ?_
      | refine run_guard0t rfl rfl (by omega) ?_
      | refine run_guard0f rfl rfl (by omega) ?_
      | refine run_guard1 rfl rfl (fun h1 => ?_) (fun h1 => ?_)
      | refine run_guard0 rfl rfl (fun h1 => ?_) (fun h1 => ?_)
      | refine run_guard rfl rfl (fun h1 => ?_) (fun h1 => ?_)
      | refine run_nil ?_
      | refine sd ?_
      | refine sdl ?_
      | refine sdm (n := 1) ?_
      | refine sdm ?_
      | refine sdb ?_
      | refine rund_want rfl rfl ?_
      | refine rund_unwant rfl rfl ?_
      | refine rund_undef rfl rfl ?_
      | refine rund_guard1 rfl rfl (fun h1 => ?_) (fun h1 => ?_)
      | refine rund_guard0 rfl rfl (fun h1 => ?_) (fun h1 => ?_)
      | refine rund_guard rfl rfl (fun h1 => ?_) (fun h1 => ?_)
      | refine rund_nil ?_
      | refine aw_seq ?_
      | refine aw_region (by kernel_rfl) (Nat.le_of_ble_eq_true rfl) ?_
      | refine aw_region_dC (id := 10) [0, 0, 2, 6, 14, 31, 63, 127, 127, 0, 767, 2047] 10 (by (repeat constructor)) (by kernel_rfl) (by kernel_rfl) (by kernel_rfl) (by rfl) ?_
      | refine aw_region_dC (id := 30) [0, 1, 3, 7, 7, 31, 63, 127, 255, 255, 255, 2047, 255, 255, 8447, 255, 57599, 127231, 262143, 524287] 20 (by (repeat constructor)) (by kernel_rfl) (by kernel_rfl) (by kernel_rfl) (by rfl) ?_
      | refine aw_block ?_
      | refine aw_cond_t rfl ?_
      | refine aw_cond_f rfl ?_
      | refine aw_cond_tp rfl (by omega) ?_
      | refine aw_cond_fp rfl (by omega) ?_
      | refine aw_cond1 rfl (fun h1 => ?_) (fun h1 => ?_)
      | refine aw_cond rfl (fun h1 => ?_) (fun h1 => ?_)
      | refine aw_skip ?_
      | refine aw_exit ?_
      | refine aw_ret ?_
      | refine pp_ret ?_
      | refine pp_normal ?_
    refine aw_loopg
      (S := fun y : Ag => [(3, .int .u16 st_), (9, .int .i64 (1 + tn % 8)), (10, .pointer (some ⟨2, 0, none⟩)), (36, .slice (some ⟨0, 0, none⟩) k k), (37, .int .i64 k), (38, .int .i64 y.i)])
      (B := fun y : Ag => [some ⟨List.map (Value.int .u8) L, false, 1⟩, some ⟨y.C.flatMap tcC, true, 6⟩, some ⟨[.int .i64 (nd % 32), .int .i64 12, .slice (some ⟨1, 0, none⟩) y.n y.n], true, 1⟩])
      (R := fun y : Ag => y.i ≤ k ∧ ShT y.C ∧ y.C.length = y.n ∧ y.n ≤ y.i)
      (μ := fun y : Ag => k - y.i) ⟨0, 0, []⟩ (fitsD [0, 1, 2]) ⟨Nat.zero_le _, ShT.nil, rfl, Nat.le_refl _⟩ ?_
    rintro ⟨i, n, C⟩ ⟨g1, g2, g3, g4⟩
    dsimp only at *
    by_cases hi : i < k
    · obtain ⟨q, hq⟩ : ∃ q, L[i]? = some q := ⟨_, List.getElem?_eq_getElem (by omega)⟩
      have hq8 := hL q (List.mem_of_getElem? hq)
      have HS := ac_sharedCell (q % 12)
      have hs12 : 0 ≤ q % 12 ∧ q % 12 < 12 := by omega
      have hchk := g2.chk (node := nd % 32) (by omega) (by omega)
      have hfm := form_sh (nd % 32) (q % 12) hs12
      obtain ⟨tk, htk⟩ : ∃ tk, takB C (q % 12) 3 = tk := ⟨_, rfl⟩
      cases tk
      · have hput := g2.put hs12 (tak_false htk g2)
        have hpl : (putC (shc (q % 12)) C).length = n + 1 := by rw [putC_len, g3]
        have HA := ac_addP (nd % 32) 12 C n g3 (by omega) (q % 12) hchk hfm htk
        clear hchk hfm htk
        repeat' first
          | refine st (h := ok_not_dec2 rfl) ?_
          | refine sd (h := ok_not_dec2 rfl) ?_
          | refine st (h := ok_load_mapE (f := Value.int .u8) i hq rfl rfl rfl (by omega)) ?_
          | refine st ?_
          | refine st_call (ac_awake) ?_
          | refine st_call (HS) ?_
          | refine sd_call (HS) ?_
          | refine sdNR (r' := .tuple #[.agg #[.int .i64 (nd % 32), .int .i64 12, .slice (some ⟨3, 0, none⟩) (n + 1) (n + 1)], .int .i64 0]) (N := [some ⟨(putC (shc (q % 12)) C).flatMap tcC, true, 6⟩]) [1] 1 HA ?_
          | refine stm ?_
          | refine run_want rfl rfl ?_
          | refine run_unwant rfl rfl ?_
          | refine run_undef rfl rfl ?_
          | refine run_guard1t rfl rfl (by omega) ?_
          | refine run_guard1f rfl rfl (by omega) ?_
          | refine run_guard0t rfl rfl (by omega) ?_
          | refine run_guard0f rfl rfl (by omega) ?_
          | refine run_guard1 rfl rfl (fun h1 => ?_) (fun h1 => ?_)
          | refine run_guard0 rfl rfl (fun h1 => ?_) (fun h1 => ?_)
          | refine run_guard rfl rfl (fun h1 => ?_) (fun h1 => ?_)
          | refine run_nil ?_
          | refine sd ?_
          | refine sdl ?_
          | refine sdm (n := 1) ?_
          | refine sdm ?_
          | refine sdb ?_
          | refine rund_want rfl rfl ?_
          | refine rund_unwant rfl rfl ?_
          | refine rund_undef rfl rfl ?_
          | refine rund_guard1 rfl rfl (fun h1 => ?_) (fun h1 => ?_)
          | refine rund_guard0 rfl rfl (fun h1 => ?_) (fun h1 => ?_)
          | refine rund_guard rfl rfl (fun h1 => ?_) (fun h1 => ?_)
          | refine rund_nil ?_
          | refine aw_seq ?_
          | refine aw_region (by kernel_rfl) (Nat.le_of_ble_eq_true rfl) ?_
          | refine aw_region_dC (id := 10) [0, 0, 2, 6, 14, 31, 63, 127, 127, 0, 767, 2047] 10 (by (repeat constructor)) (by kernel_rfl) (by kernel_rfl) (by kernel_rfl) (by rfl) ?_
          | refine aw_region_dC (id := 30) [0, 1, 3, 7, 7, 31, 63, 127, 255, 255, 255, 2047, 255, 255, 8447, 255, 57599, 127231, 262143, 524287] 20 (by (repeat constructor)) (by kernel_rfl) (by kernel_rfl) (by kernel_rfl) (by rfl) ?_
          | refine aw_block ?_
          | refine aw_cond_t rfl ?_
          | refine aw_cond_f rfl ?_
          | refine aw_cond_tp rfl (by omega) ?_
          | refine aw_cond_fp rfl (by omega) ?_
          | refine aw_cond1 rfl (fun h1 => ?_) (fun h1 => ?_)
          | refine aw_cond rfl (fun h1 => ?_) (fun h1 => ?_)
          | refine aw_skip ?_
          | refine aw_exit ?_
          | refine aw_ret ?_
          | refine pp_ret ?_
          | refine pp_normal ?_
        all_goals first | exact Exists.intro ⟨i + 1, n + 1, putC (shc (q % 12)) C⟩ ⟨fitsD [0, 3, 2], ⟨hi, hput, hpl, by dsimp only; omega⟩, by dsimp only; omega⟩ | (exfalso; omega)
      · have HA := ac_addT (nd % 32) 12 C n g3 (by omega) (q % 12) hchk hfm htk
        clear hchk hfm htk
        repeat' first
          | refine st (h := ok_not_dec2 rfl) ?_
          | refine sd (h := ok_not_dec2 rfl) ?_
          | refine st (h := ok_load_mapE (f := Value.int .u8) i hq rfl rfl rfl (by omega)) ?_
          | refine st ?_
          | refine st_call (ac_awake) ?_
          | refine st_call (HS) ?_
          | refine sd_call (HS) ?_
          | refine sdNR (r' := .tuple #[.agg #[.int .i64 0, .int .i64 0, .slice (some ⟨3, 0, none⟩) 0 0], .int .i64 16]) (N := [some ⟨[], true, 6⟩]) [1] 1 HA ?_
          | refine stm ?_
          | refine run_want rfl rfl ?_
          | refine run_unwant rfl rfl ?_
          | refine run_undef rfl rfl ?_
          | refine run_guard1t rfl rfl (by omega) ?_
          | refine run_guard1f rfl rfl (by omega) ?_
          | refine run_guard0t rfl rfl (by omega) ?_
          | refine run_guard0f rfl rfl (by omega) ?_
          | refine run_guard1 rfl rfl (fun h1 => ?_) (fun h1 => ?_)
          | refine run_guard0 rfl rfl (fun h1 => ?_) (fun h1 => ?_)
          | refine run_guard rfl rfl (fun h1 => ?_) (fun h1 => ?_)
          | refine run_nil ?_
          | refine sd ?_
          | refine sdl ?_
          | refine sdm (n := 1) ?_
          | refine sdm ?_
          | refine sdb ?_
          | refine rund_want rfl rfl ?_
          | refine rund_unwant rfl rfl ?_
          | refine rund_undef rfl rfl ?_
          | refine rund_guard1 rfl rfl (fun h1 => ?_) (fun h1 => ?_)
          | refine rund_guard0 rfl rfl (fun h1 => ?_) (fun h1 => ?_)
          | refine rund_guard rfl rfl (fun h1 => ?_) (fun h1 => ?_)
          | refine rund_nil ?_
          | refine aw_seq ?_
          | refine aw_region (by kernel_rfl) (Nat.le_of_ble_eq_true rfl) ?_
          | refine aw_region_dC (id := 10) [0, 0, 2, 6, 14, 31, 63, 127, 127, 0, 767, 2047] 10 (by (repeat constructor)) (by kernel_rfl) (by kernel_rfl) (by kernel_rfl) (by rfl) ?_
          | refine aw_region_dC (id := 30) [0, 1, 3, 7, 7, 31, 63, 127, 255, 255, 255, 2047, 255, 255, 8447, 255, 57599, 127231, 262143, 524287] 20 (by (repeat constructor)) (by kernel_rfl) (by kernel_rfl) (by kernel_rfl) (by rfl) ?_
          | refine aw_block ?_
          | refine aw_cond_t rfl ?_
          | refine aw_cond_f rfl ?_
          | refine aw_cond_tp rfl (by omega) ?_
          | refine aw_cond_fp rfl (by omega) ?_
          | refine aw_cond1 rfl (fun h1 => ?_) (fun h1 => ?_)
          | refine aw_cond rfl (fun h1 => ?_) (fun h1 => ?_)
          | refine aw_skip ?_
          | refine aw_exit ?_
          | refine aw_ret ?_
          | refine pp_ret ?_
          | refine pp_normal ?_
        all_goals first | exact Exists.intro ⟨i + 1, n, C⟩ ⟨fitsD [0, 1, 2], ⟨hi, g2, g3, by dsimp only; omega⟩, by dsimp only; omega⟩ | (exfalso; omega)
    · obtain rfl : i = k := by omega
      by_cases hn0 : n = 0
      · subst hn0
        obtain rfl : C = [] := List.eq_nil_of_length_eq_zero g3
        have H1 := ac_next (nd % 32) 12 [] 0 rfl (by decide) st_ (1 + tn % 8) (by omega) 0 false (next_none (by omega) (by omega) (by omega) (by omega))
        repeat' first
          | refine st (h := ok_not_dec2 rfl) ?_
          | refine sd (h := ok_not_dec2 rfl) ?_
          | refine st ?_
          | refine stRW [1] H1 ?_
          | refine sdRW [1] H1 ?_
          | refine stm ?_
          | refine run_want rfl rfl ?_
          | refine run_unwant rfl rfl ?_
          | refine run_undef rfl rfl ?_
          | refine run_guard1t rfl rfl (by omega) ?_
          | refine run_guard1f rfl rfl (by omega) ?_
          | refine run_guard0t rfl rfl (by omega) ?_
          | refine run_guard0f rfl rfl (by omega) ?_
          | refine run_guard1 rfl rfl (fun h1 => ?_) (fun h1 => ?_)
          | refine run_guard0 rfl rfl (fun h1 => ?_) (fun h1 => ?_)
          | refine run_guard rfl rfl (fun h1 => ?_) (fun h1 => ?_)
          | refine run_nil ?_
          | refine sd ?_
          | refine sdl ?_
          | refine sdm (n := 1) ?_
          | refine sdm ?_
          | refine sdb ?_
          | refine rund_want rfl rfl ?_
          | refine rund_unwant rfl rfl ?_
          | refine rund_undef rfl rfl ?_
          | refine rund_guard1 rfl rfl (fun h1 => ?_) (fun h1 => ?_)
          | refine rund_guard0 rfl rfl (fun h1 => ?_) (fun h1 => ?_)
          | refine rund_guard rfl rfl (fun h1 => ?_) (fun h1 => ?_)
          | refine rund_nil ?_
          | refine aw_seq ?_
          | refine aw_region (by kernel_rfl) (Nat.le_of_ble_eq_true rfl) ?_
          | refine aw_region_dC (id := 10) [0, 0, 2, 6, 14, 31, 63, 127, 127, 0, 767, 2047] 10 (by (repeat constructor)) (by kernel_rfl) (by kernel_rfl) (by kernel_rfl) (by rfl) ?_
          | refine aw_region_dC (id := 30) [0, 1, 3, 7, 7, 31, 63, 127, 255, 255, 255, 2047, 255, 255, 8447, 255, 57599, 127231, 262143, 524287] 20 (by (repeat constructor)) (by kernel_rfl) (by kernel_rfl) (by kernel_rfl) (by rfl) ?_
          | refine aw_block ?_
          | refine aw_cond_t rfl ?_
          | refine aw_cond_f rfl ?_
          | refine aw_cond_tp rfl (by omega) ?_
          | refine aw_cond_fp rfl (by omega) ?_
          | refine aw_cond1 rfl (fun h1 => ?_) (fun h1 => ?_)
          | refine aw_cond rfl (fun h1 => ?_) (fun h1 => ?_)
          | refine aw_skip ?_
          | refine aw_exit ?_
          | refine aw_ret ?_
          | refine pp_ret ?_
          | refine pp_normal ?_
        all_goals first | exact pm_ret _ (renumD [0]) rfl | (exfalso; omega)
      · have h0 : C ≠ [] := fun e => hn0 (by rw [← g3, e]; rfl)
        obtain ⟨i0, hnx, hi1, hi2, hi3⟩ := next_some (node := (nd % 32)) (n := (1 + tn % 8)) (s := st_) g2 (by omega) (by omega) (by omega) (by omega) h0
        have H1 := ac_next (nd % 32) 12 C n g3 (by omega) st_ (1 + tn % 8) (by omega) _ true hnx
        clear hnx
        repeat' first
          | refine st (h := ok_not_dec2 rfl) ?_
          | refine sd (h := ok_not_dec2 rfl) ?_
          | refine st ?_
          | refine stRW [1] H1 ?_
          | refine sdRW [1] H1 ?_
          | refine stm ?_
          | refine run_want rfl rfl ?_
          | refine run_unwant rfl rfl ?_
          | refine run_undef rfl rfl ?_
          | refine run_guard1t rfl rfl (by omega) ?_
          | refine run_guard1f rfl rfl (by omega) ?_
          | refine run_guard0t rfl rfl (by omega) ?_
          | refine run_guard0f rfl rfl (by omega) ?_
          | refine run_guard1 rfl rfl (fun h1 => ?_) (fun h1 => ?_)
          | refine run_guard0 rfl rfl (fun h1 => ?_) (fun h1 => ?_)
          | refine run_guard rfl rfl (fun h1 => ?_) (fun h1 => ?_)
          | refine run_nil ?_
          | refine sd ?_
          | refine sdl ?_
          | refine sdm (n := 1) ?_
          | refine sdm ?_
          | refine sdb ?_
          | refine rund_want rfl rfl ?_
          | refine rund_unwant rfl rfl ?_
          | refine rund_undef rfl rfl ?_
          | refine rund_guard1 rfl rfl (fun h1 => ?_) (fun h1 => ?_)
          | refine rund_guard0 rfl rfl (fun h1 => ?_) (fun h1 => ?_)
          | refine rund_guard rfl rfl (fun h1 => ?_) (fun h1 => ?_)
          | refine rund_nil ?_
          | refine aw_seq ?_
          | refine aw_region (by kernel_rfl) (Nat.le_of_ble_eq_true rfl) ?_
          | refine aw_region_dC (id := 10) [0, 0, 2, 6, 14, 31, 63, 127, 127, 0, 767, 2047] 10 (by (repeat constructor)) (by kernel_rfl) (by kernel_rfl) (by kernel_rfl) (by rfl) ?_
          | refine aw_region_dC (id := 30) [0, 1, 3, 7, 7, 31, 63, 127, 255, 255, 255, 2047, 255, 255, 8447, 255, 57599, 127231, 262143, 524287] 20 (by (repeat constructor)) (by kernel_rfl) (by kernel_rfl) (by kernel_rfl) (by rfl) ?_
          | refine aw_block ?_
          | refine aw_cond_t rfl ?_
          | refine aw_cond_f rfl ?_
          | refine aw_cond_tp rfl (by omega) ?_
          | refine aw_cond_fp rfl (by omega) ?_
          | refine aw_cond1 rfl (fun h1 => ?_) (fun h1 => ?_)
          | refine aw_cond rfl (fun h1 => ?_) (fun h1 => ?_)
          | refine aw_skip ?_
          | refine aw_exit ?_
          | refine aw_ret ?_
          | refine pp_ret ?_
          | refine pp_normal ?_
        clear H1
        refine aw_loopg
          (S := fun y : Dh => [(3, .int .u16 st_), (9, .int .i64 (1 + tn % 8)), (10, .pointer (some ⟨2, 0, none⟩)), (15, .int .i64 (st_ + i0)), (17, .bool y.e.fst), (18, .int .i64 y.e.m), (19, .int .i64 y.e.own), (20, .int .i64 y.sl)])
          (B := fun y : Dh => [some ⟨List.map (Value.int .u8) L, false, 1⟩, some ⟨C.flatMap tcC, true, 6⟩, some ⟨[.int .i64 (nd % 32), .int .i64 12, .slice (some ⟨1, 0, none⟩) n n], true, 1⟩])
          (R := fun y : Dh => EInv C (nd % 32) (1 + tn % 8) st_ y.e ∧ 0 ≤ y.e.m ∧ y.sl = st_ + y.e.d)
          (μ := fun y : Dh => (12 * (1 + tn % 8)).toNat - y.e.d) ⟨⟨0, 0, 0, true⟩, st_⟩ (fitsD [0, 1, 2]) ⟨⟨by dsimp only; omega, by dsimp only; simp, by dsimp only; omega, .inl ⟨rfl, rfl, fun j hj => absurd hj (Nat.not_lt_zero _)⟩⟩, Int.le_refl _, by dsimp only; omega⟩ ?_
        rintro ⟨⟨d, m, own, fst⟩, sl⟩ ⟨e1, e5, e6⟩
        dsimp only at e1 e5 e6 ⊢
        subst e6
        by_cases hm : m < (1 + tn % 8)
        · have hdl := e_lt g2 (by omega) h0 e1 hm
          dsimp only at hdl
          have htu := turn_sh (node := (nd % 32)) (t := (1 + tn % 8)) (s := st_ + d) g2 (by omega) (by omega) (by omega) (by omega)
          have hdu := due_sh (node := (nd % 32)) (t := (1 + tn % 8)) (s := st_ + d) g2 (by omega) (by omega) (by omega) (by omega)
          cases hsh : shH ((st_ + d) % 12) C
          · rw [hsh, if_neg (by simp)] at htu
            rw [hsh, Bool.false_and] at hdu
            have HT := ac_turn (nd % 32) 12 C n g3 (by omega) (st_ + d) (1 + tn % 8) (by omega) 0 false htu
            have HD := ac_due (nd % 32) 12 C n g3 (by omega) (st_ + d) (1 + tn % 8) (by omega) false hdu
            have hE := e_no g2 (by omega) h0 e1 hm hsh hdu
            clear htu hdu e1 hi2 hi3
            repeat' first
              | refine st (h := ok_not_dec2 rfl) ?_
              | refine sd (h := ok_not_dec2 rfl) ?_
              | refine st (h := ok_not_dec2 rfl) ?_
              | refine sd (h := ok_not_dec2 rfl) ?_
              | refine st ?_
              | refine stRW [1] HT ?_
              | refine stRW [1] HD ?_
              | refine sdRW [1] HT ?_
              | refine sdRW [1] HD ?_
              | refine stm ?_
              | refine run_want rfl rfl ?_
              | refine run_unwant rfl rfl ?_
              | refine run_undef rfl rfl ?_
              | refine run_guard1t rfl rfl (by omega) ?_
              | refine run_guard1f rfl rfl (by omega) ?_
              | refine run_guard0t rfl rfl (by omega) ?_
              | refine run_guard0f rfl rfl (by omega) ?_
              | refine run_guard1 rfl rfl (fun h1 => ?_) (fun h1 => ?_)
              | refine run_guard0 rfl rfl (fun h1 => ?_) (fun h1 => ?_)
              | refine run_guard rfl rfl (fun h1 => ?_) (fun h1 => ?_)
              | refine run_nil ?_
              | refine sd ?_
              | refine sdl ?_
              | refine sdm (n := 1) ?_
              | refine sdm ?_
              | refine sdb ?_
              | refine rund_want rfl rfl ?_
              | refine rund_unwant rfl rfl ?_
              | refine rund_undef rfl rfl ?_
              | refine rund_guard1 rfl rfl (fun h1 => ?_) (fun h1 => ?_)
              | refine rund_guard0 rfl rfl (fun h1 => ?_) (fun h1 => ?_)
              | refine rund_guard rfl rfl (fun h1 => ?_) (fun h1 => ?_)
              | refine rund_nil ?_
              | refine aw_seq ?_
              | refine aw_region (by kernel_rfl) (Nat.le_of_ble_eq_true rfl) ?_
              | refine aw_region_dC (id := 10) [0, 0, 2, 6, 14, 31, 63, 127, 127, 0, 767, 2047] 10 (by (repeat constructor)) (by kernel_rfl) (by kernel_rfl) (by kernel_rfl) (by rfl) ?_
              | refine aw_region_dC (id := 30) [0, 1, 3, 7, 7, 31, 63, 127, 255, 255, 255, 2047, 255, 255, 8447, 255, 57599, 127231, 262143, 524287] 20 (by (repeat constructor)) (by kernel_rfl) (by kernel_rfl) (by kernel_rfl) (by rfl) ?_
              | refine aw_block ?_
              | refine aw_cond_t rfl ?_
              | refine aw_cond_f rfl ?_
              | refine aw_cond_tp rfl (by omega) ?_
              | refine aw_cond_fp rfl (by omega) ?_
              | refine aw_cond1 rfl (fun h1 => ?_) (fun h1 => ?_)
              | refine aw_cond rfl (fun h1 => ?_) (fun h1 => ?_)
              | refine aw_skip ?_
              | refine aw_exit ?_
              | refine aw_ret ?_
              | refine pp_ret ?_
              | refine pp_normal ?_
            all_goals first | exact Exists.intro ⟨⟨d + 1, m, own, fst⟩, st_ + d + 1⟩ ⟨fitsD [0, 1, 2], ⟨hE, e5, by dsimp only; omega⟩, by dsimp only; omega⟩ | (exfalso; omega)
          · obtain ⟨p, hp⟩ : ∃ p, Gs C (st_ + d) % (1 + tn % 8) = p := ⟨_, rfl⟩
            have hp0 : 0 ≤ p ∧ p < (1 + tn % 8) := by
              rw [← hp]
              exact ⟨Int.emod_nonneg _ (by omega), Int.emod_lt_of_pos _ (by omega)⟩
            rw [hsh, if_pos rfl, hp] at htu
            rw [hsh, Bool.true_and, hp] at hdu
            have HT := ac_turn (nd % 32) 12 C n g3 (by omega) (st_ + d) (1 + tn % 8) (by omega) p true htu
            by_cases hpe : p = (nd % 32) % (1 + tn % 8)
            · rw [decide_eq_true hpe] at hdu
              have HD := ac_due (nd % 32) 12 C n g3 (by omega) (st_ + d) (1 + tn % 8) (by omega) true hdu
              obtain ⟨rfl, rfl, hall, hE⟩ := e_own g2 (by omega) (by omega) (by omega) (by omega) h0 e1 hm hsh hdu
              have hid : i0 = d := by
                rcases Nat.lt_trichotomy i0 d with h | h | h
                · rw [hall i0 h] at hi2; cases hi2
                · exact h
                · rw [hi3 d h] at hdu; cases hdu
              subst hid
              clear htu hdu e1 hi2 hi3 hall
              repeat' first
                | refine st (h := ok_not_dec2 rfl) ?_
                | refine sd (h := ok_not_dec2 rfl) ?_
                | refine st (h := ok_not_dec2 rfl) ?_
                | refine sd (h := ok_not_dec2 rfl) ?_
                | refine st ?_
                | refine stRW [1] HT ?_
                | refine stRW [1] HD ?_
                | refine sdRW [1] HT ?_
                | refine sdRW [1] HD ?_
                | refine stm ?_
                | refine run_want rfl rfl ?_
                | refine run_unwant rfl rfl ?_
                | refine run_undef rfl rfl ?_
                | refine run_guard1t rfl rfl (by omega) ?_
                | refine run_guard1f rfl rfl (by omega) ?_
                | refine run_guard0t rfl rfl (by omega) ?_
                | refine run_guard0f rfl rfl (by omega) ?_
                | refine run_guard1 rfl rfl (fun h1 => ?_) (fun h1 => ?_)
                | refine run_guard0 rfl rfl (fun h1 => ?_) (fun h1 => ?_)
                | refine run_guard rfl rfl (fun h1 => ?_) (fun h1 => ?_)
                | refine run_nil ?_
                | refine sd ?_
                | refine sdl ?_
                | refine sdm (n := 1) ?_
                | refine sdm ?_
                | refine sdb ?_
                | refine rund_want rfl rfl ?_
                | refine rund_unwant rfl rfl ?_
                | refine rund_undef rfl rfl ?_
                | refine rund_guard1 rfl rfl (fun h1 => ?_) (fun h1 => ?_)
                | refine rund_guard0 rfl rfl (fun h1 => ?_) (fun h1 => ?_)
                | refine rund_guard rfl rfl (fun h1 => ?_) (fun h1 => ?_)
                | refine rund_nil ?_
                | refine aw_seq ?_
                | refine aw_region (by kernel_rfl) (Nat.le_of_ble_eq_true rfl) ?_
                | refine aw_region_dC (id := 10) [0, 0, 2, 6, 14, 31, 63, 127, 127, 0, 767, 2047] 10 (by (repeat constructor)) (by kernel_rfl) (by kernel_rfl) (by kernel_rfl) (by rfl) ?_
                | refine aw_region_dC (id := 30) [0, 1, 3, 7, 7, 31, 63, 127, 255, 255, 255, 2047, 255, 255, 8447, 255, 57599, 127231, 262143, 524287] 20 (by (repeat constructor)) (by kernel_rfl) (by kernel_rfl) (by kernel_rfl) (by rfl) ?_
                | refine aw_block ?_
                | refine aw_cond_t rfl ?_
                | refine aw_cond_f rfl ?_
                | refine aw_cond_tp rfl (by omega) ?_
                | refine aw_cond_fp rfl (by omega) ?_
                | refine aw_cond1 rfl (fun h1 => ?_) (fun h1 => ?_)
                | refine aw_cond rfl (fun h1 => ?_) (fun h1 => ?_)
                | refine aw_skip ?_
                | refine aw_exit ?_
                | refine aw_ret ?_
                | refine pp_ret ?_
                | refine pp_normal ?_
              all_goals first | exact Exists.intro ⟨⟨i0 + 1, m + 1, 1, false⟩, st_ + i0 + 1⟩ ⟨fitsD [0, 1, 2], ⟨hE, by dsimp only; omega, by dsimp only; omega⟩, by dsimp only; omega⟩ | (exfalso; omega) | (exfalso; simp_all; done)
            · rw [decide_eq_false hpe] at hdu
              have HD := ac_due (nd % 32) 12 C n g3 (by omega) (st_ + d) (1 + tn % 8) (by omega) false hdu
              have hE := e_other g2 (by omega) h0 e1 hm hsh hdu
              clear htu hdu e1 hi2 hi3
              repeat' first
                | refine st (h := ok_not_dec2 rfl) ?_
                | refine sd (h := ok_not_dec2 rfl) ?_
                | refine st (h := ok_not_dec2 rfl) ?_
                | refine sd (h := ok_not_dec2 rfl) ?_
                | refine st ?_
                | refine stRW [1] HT ?_
                | refine stRW [1] HD ?_
                | refine sdRW [1] HT ?_
                | refine sdRW [1] HD ?_
                | refine stm ?_
                | refine run_want rfl rfl ?_
                | refine run_unwant rfl rfl ?_
                | refine run_undef rfl rfl ?_
                | refine run_guard1t rfl rfl (by omega) ?_
                | refine run_guard1f rfl rfl (by omega) ?_
                | refine run_guard0t rfl rfl (by omega) ?_
                | refine run_guard0f rfl rfl (by omega) ?_
                | refine run_guard1 rfl rfl (fun h1 => ?_) (fun h1 => ?_)
                | refine run_guard0 rfl rfl (fun h1 => ?_) (fun h1 => ?_)
                | refine run_guard rfl rfl (fun h1 => ?_) (fun h1 => ?_)
                | refine run_nil ?_
                | refine sd ?_
                | refine sdl ?_
                | refine sdm (n := 1) ?_
                | refine sdm ?_
                | refine sdb ?_
                | refine rund_want rfl rfl ?_
                | refine rund_unwant rfl rfl ?_
                | refine rund_undef rfl rfl ?_
                | refine rund_guard1 rfl rfl (fun h1 => ?_) (fun h1 => ?_)
                | refine rund_guard0 rfl rfl (fun h1 => ?_) (fun h1 => ?_)
                | refine rund_guard rfl rfl (fun h1 => ?_) (fun h1 => ?_)
                | refine rund_nil ?_
                | refine aw_seq ?_
                | refine aw_region (by kernel_rfl) (Nat.le_of_ble_eq_true rfl) ?_
                | refine aw_region_dC (id := 10) [0, 0, 2, 6, 14, 31, 63, 127, 127, 0, 767, 2047] 10 (by (repeat constructor)) (by kernel_rfl) (by kernel_rfl) (by kernel_rfl) (by rfl) ?_
                | refine aw_region_dC (id := 30) [0, 1, 3, 7, 7, 31, 63, 127, 255, 255, 255, 2047, 255, 255, 8447, 255, 57599, 127231, 262143, 524287] 20 (by (repeat constructor)) (by kernel_rfl) (by kernel_rfl) (by kernel_rfl) (by rfl) ?_
                | refine aw_block ?_
                | refine aw_cond_t rfl ?_
                | refine aw_cond_f rfl ?_
                | refine aw_cond_tp rfl (by omega) ?_
                | refine aw_cond_fp rfl (by omega) ?_
                | refine aw_cond1 rfl (fun h1 => ?_) (fun h1 => ?_)
                | refine aw_cond rfl (fun h1 => ?_) (fun h1 => ?_)
                | refine aw_skip ?_
                | refine aw_exit ?_
                | refine aw_ret ?_
                | refine pp_ret ?_
                | refine pp_normal ?_
              all_goals first | exact Exists.intro ⟨⟨d + 1, m + 1, own, fst⟩, st_ + d + 1⟩ ⟨fitsD [0, 1, 2], ⟨hE, by dsimp only; omega, by dsimp only; omega⟩, by dsimp only; omega⟩ | (exfalso; omega) | (exfalso; simp_all; done)
        · obtain rfl := e_end g2 (by omega) (by omega) (by omega) (by omega) e1 hm
          clear e1 hi2 hi3
          repeat' first
            | refine st (h := ok_not_dec2 rfl) ?_
            | refine sd (h := ok_not_dec2 rfl) ?_
            | refine st ?_
            | refine stm ?_
            | refine run_want rfl rfl ?_
            | refine run_unwant rfl rfl ?_
            | refine run_undef rfl rfl ?_
            | refine run_guard1t rfl rfl (by omega) ?_
            | refine run_guard1f rfl rfl (by omega) ?_
            | refine run_guard0t rfl rfl (by omega) ?_
            | refine run_guard0f rfl rfl (by omega) ?_
            | refine run_guard1 rfl rfl (fun h1 => ?_) (fun h1 => ?_)
            | refine run_guard0 rfl rfl (fun h1 => ?_) (fun h1 => ?_)
            | refine run_guard rfl rfl (fun h1 => ?_) (fun h1 => ?_)
            | refine run_nil ?_
            | refine sd ?_
            | refine sdl ?_
            | refine sdm (n := 1) ?_
            | refine sdm ?_
            | refine sdb ?_
            | refine rund_want rfl rfl ?_
            | refine rund_unwant rfl rfl ?_
            | refine rund_undef rfl rfl ?_
            | refine rund_guard1 rfl rfl (fun h1 => ?_) (fun h1 => ?_)
            | refine rund_guard0 rfl rfl (fun h1 => ?_) (fun h1 => ?_)
            | refine rund_guard rfl rfl (fun h1 => ?_) (fun h1 => ?_)
            | refine rund_nil ?_
            | refine aw_seq ?_
            | refine aw_region (by kernel_rfl) (Nat.le_of_ble_eq_true rfl) ?_
            | refine aw_region_dC (id := 10) [0, 0, 2, 6, 14, 31, 63, 127, 127, 0, 767, 2047] 10 (by (repeat constructor)) (by kernel_rfl) (by kernel_rfl) (by kernel_rfl) (by rfl) ?_
            | refine aw_region_dC (id := 30) [0, 1, 3, 7, 7, 31, 63, 127, 255, 255, 255, 2047, 255, 255, 8447, 255, 57599, 127231, 262143, 524287] 20 (by (repeat constructor)) (by kernel_rfl) (by kernel_rfl) (by kernel_rfl) (by rfl) ?_
            | refine aw_block ?_
            | refine aw_cond_t rfl ?_
            | refine aw_cond_f rfl ?_
            | refine aw_cond_tp rfl (by omega) ?_
            | refine aw_cond_fp rfl (by omega) ?_
            | refine aw_cond1 rfl (fun h1 => ?_) (fun h1 => ?_)
            | refine aw_cond rfl (fun h1 => ?_) (fun h1 => ?_)
            | refine aw_skip ?_
            | refine aw_exit ?_
            | refine aw_ret ?_
            | refine pp_ret ?_
            | refine pp_normal ?_
          all_goals first | exact pm_ret _ (renumD [0]) rfl | (exfalso; omega)
  · refine acalls_law Try.func6 rfl rfl rfl ?_
    repeat' first
      | refine st (h := ok_not_dec2 rfl) ?_
      | refine sd (h := ok_not_dec2 rfl) ?_
      | refine st ?_
      | refine st_call (ac_awake) ?_
      | refine stm ?_
      | refine run_want rfl rfl ?_
      | refine run_unwant rfl rfl ?_
      | refine run_undef rfl rfl ?_
      | refine run_guard1t rfl rfl (by omega) ?_
      | refine run_guard1f rfl rfl (by omega) ?_
      | refine run_guard0t rfl rfl (by omega) ?_
      | refine run_guard0f rfl rfl (by omega) ?_
      | refine run_guard1 rfl rfl (fun h1 => ?_) (fun h1 => ?_)
      | refine run_guard0 rfl rfl (fun h1 => ?_) (fun h1 => ?_)
      | refine run_guard rfl rfl (fun h1 => ?_) (fun h1 => ?_)
      | refine run_nil ?_
      | refine sd ?_
      | refine sdl ?_
      | refine sdm (n := 1) ?_
      | refine sdm ?_
      | refine sdb ?_
      | refine rund_want rfl rfl ?_
      | refine rund_unwant rfl rfl ?_
      | refine rund_undef rfl rfl ?_
      | refine rund_guard1 rfl rfl (fun h1 => ?_) (fun h1 => ?_)
      | refine rund_guard0 rfl rfl (fun h1 => ?_) (fun h1 => ?_)
      | refine rund_guard rfl rfl (fun h1 => ?_) (fun h1 => ?_)
      | refine rund_nil ?_
      | refine aw_seq ?_
      | refine aw_region (by kernel_rfl) (Nat.le_of_ble_eq_true rfl) ?_
      | refine aw_region_dC (id := 10) [0, 0, 2, 6, 14, 31, 63, 127, 127, 0, 767, 2047] 10 (by (repeat constructor)) (by kernel_rfl) (by kernel_rfl) (by kernel_rfl) (by rfl) ?_
      | refine aw_region_dC (id := 30) [0, 1, 3, 7, 7, 31, 63, 127, 255, 255, 255, 2047, 255, 255, 8447, 255, 57599, 127231, 262143, 524287] 20 (by (repeat constructor)) (by kernel_rfl) (by kernel_rfl) (by kernel_rfl) (by rfl) ?_
      | refine aw_block ?_
      | refine aw_cond_t rfl ?_
      | refine aw_cond_f rfl ?_
      | refine aw_cond_tp rfl (by omega) ?_
      | refine aw_cond_fp rfl (by omega) ?_
      | refine aw_cond1 rfl (fun h1 => ?_) (fun h1 => ?_)
      | refine aw_cond rfl (fun h1 => ?_) (fun h1 => ?_)
      | refine aw_skip ?_
      | refine aw_exit ?_
      | refine aw_ret ?_
      | refine pp_ret ?_
      | refine pp_normal ?_
    all_goals first
      | rfl
      | (exfalso; omega)
      | (simp [retOf]; done)
      | (exfalso; simp_all; done)
end Go.Proofs.Ytfabgdignlfihaa
