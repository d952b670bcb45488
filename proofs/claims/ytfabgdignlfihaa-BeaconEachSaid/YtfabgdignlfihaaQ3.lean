/- Tables of shared cells: the reference's taken and Put. -/
import Derived.Test.YtfabgdignlfihaaQ1
import Derived.Test.YtfabgdignlfihaaI1
import Derived.Test.YtfabgdignlfihaaVJ
set_option linter.unusedVariables false
set_option linter.unusedSimpArgs false
namespace Go.Proofs.Ytfabgdignlfihaa
open Go Av
set_option maxRecDepth 20000
set_option maxHeartbeats 1000000 in
theorem ac_taken (C : List Ce) (n : Nat) (hn : C.length = n) (hb : n ≤ 9000000000000000000) (s k : Int) (x : Bool) (hx : takB C s k = x) : ACalls Try.prog 57 [.slice (some ⟨0, 0, none⟩) n n, .int .i64 s, .int .i64 k] [some ⟨C.flatMap tcC, false, 6⟩] (.bool x) [none] := by
  refine acalls_law Try.func57 rfl rfl rfl ?_
  repeat' first
    | refine st ?_
    | refine stm ?_
    | refine run_want rfl rfl ?_
    | refine run_unwant rfl rfl ?_
    | refine run_undef rfl rfl ?_
    | refine run_guard1t rfl rfl (by omega) ?_
    | refine run_guard1f rfl rfl (by omega) ?_
    | refine run_guard0t rfl rfl (by omega) ?_
    | refine run_guard0f rfl rfl (by omega) ?_
    | refine run_guard1 rfl rfl (fun h1 => ?_) (fun h1 => ?_)
    | refine run_guard0 rfl rfl (fun h1 => ?_) (fun h1 => ?_)
    | refine run_guard rfl rfl (fun h1 => ?_) (fun h1 => ?_)
    | refine run_nil ?_
    | refine aw_seq ?_
    | refine aw_region (by kernel_rfl) (Nat.le_of_ble_eq_true rfl) ?_
    | refine aw_block ?_
    | refine aw_cond_t rfl ?_
    | refine aw_cond_f rfl ?_
    | refine aw_cond_tp rfl (by omega) ?_
    | refine aw_cond_fp rfl (by omega) ?_
    | refine aw_cond1 rfl (fun h1 => ?_) (fun h1 => ?_)
    | refine aw_cond rfl (fun h1 => ?_) (fun h1 => ?_)
    | refine aw_skip ?_
    | refine aw_exit ?_
    | refine aw_ret ?_
    | refine pp_ret ?_
    | refine pp_normal ?_
  refine aw_loopg
    (S := fun y : Og => [(0, .slice (some ⟨0, 0, none⟩) n n), (1, .int .i64 s), (2, .int .i64 k), (7, .int .i64 y.i)])
    (B := fun _ : Og => [some ⟨C.flatMap tcC, false, 6⟩])
    (R := fun y : Og => y.i ≤ n ∧ ∀ (j : Nat), j < y.i → ∀ c, C[j]? = some c → decide (c.1 = s ∧ c.2.2.1 = k) = false)
    (μ := fun y : Og => n - y.i) ⟨0⟩ (fitsD [0]) ⟨Nat.zero_le _, fun j hj => absurd hj (Nat.not_lt_zero _)⟩ ?_
  rintro ⟨i⟩ ⟨g1, g2⟩
  dsimp only at *
  by_cases hi : i < n
  · obtain ⟨⟨sl, of, kk, sd_, pe, fl, u⟩, hq⟩ : ∃ q, C[i]? = some q := ⟨_, List.getElem?_eq_getElem (by omega)⟩
    by_cases h1 : sl = s
    · by_cases h2 : kk = k
      · obtain rfl : x = true := by rw [← hx]; exact takY hq ⟨h1, h2⟩
        repeat' first
          | refine st (v := .int .i64 sl) (h := ok_load_rowcellE (f := tcC) (n := 6) i 0 (fun _ => rfl) hq rfl (by omega) rfl rfl rfl (by omega)) ?_
          | refine st (v := .int .i64 kk) (h := ok_load_rowcellE (f := tcC) (n := 6) i 2 (fun _ => rfl) hq rfl (by omega) rfl rfl rfl (by omega)) ?_
          | refine stm (v := .int .i64 sl) (h := ok_load_rowcellE (f := tcC) (n := 6) i 0 (fun _ => rfl) hq rfl (by omega) rfl rfl rfl (by omega)) ?_
          | refine stm (v := .int .i64 kk) (h := ok_load_rowcellE (f := tcC) (n := 6) i 2 (fun _ => rfl) hq rfl (by omega) rfl rfl rfl (by omega)) ?_
          | refine st ?_
          | refine stm ?_
          | refine run_want rfl rfl ?_
          | refine run_unwant rfl rfl ?_
          | refine run_undef rfl rfl ?_
          | refine run_guard1t rfl rfl (by omega) ?_
          | refine run_guard1f rfl rfl (by omega) ?_
          | refine run_guard0t rfl rfl (by omega) ?_
          | refine run_guard0f rfl rfl (by omega) ?_
          | refine run_guard1 rfl rfl (fun h1 => ?_) (fun h1 => ?_)
          | refine run_guard0 rfl rfl (fun h1 => ?_) (fun h1 => ?_)
          | refine run_guard rfl rfl (fun h1 => ?_) (fun h1 => ?_)
          | refine run_nil ?_
          | refine aw_seq ?_
          | refine aw_region (by kernel_rfl) (Nat.le_of_ble_eq_true rfl) ?_
          | refine aw_block ?_
          | refine aw_cond_t rfl ?_
          | refine aw_cond_f rfl ?_
          | refine aw_cond_tp rfl (by omega) ?_
          | refine aw_cond_fp rfl (by omega) ?_
          | refine aw_cond1 rfl (fun h1 => ?_) (fun h1 => ?_)
          | refine aw_cond rfl (fun h1 => ?_) (fun h1 => ?_)
          | refine aw_skip ?_
          | refine aw_exit ?_
          | refine aw_ret ?_
          | refine pp_ret ?_
          | refine pp_normal ?_
        all_goals first
          | rfl
          | (exfalso; omega)
          | (exfalso; simp only [Bool.not_eq_true', Bool.not_eq_false', decide_eq_true_eq, decide_eq_false_iff_not, Bool.not_false, Bool.not_true] at *; omega)
          | (exfalso; simp_all; first | done | omega)
      · have hst := no_step (q := fun c : Ce => decide (c.1 = s ∧ c.2.2.1 = k)) g2 hq (decide_eq_false fun h => h2 h.2)
        repeat' first
          | refine st (v := .int .i64 sl) (h := ok_load_rowcellE (f := tcC) (n := 6) i 0 (fun _ => rfl) hq rfl (by omega) rfl rfl rfl (by omega)) ?_
          | refine st (v := .int .i64 kk) (h := ok_load_rowcellE (f := tcC) (n := 6) i 2 (fun _ => rfl) hq rfl (by omega) rfl rfl rfl (by omega)) ?_
          | refine stm (v := .int .i64 sl) (h := ok_load_rowcellE (f := tcC) (n := 6) i 0 (fun _ => rfl) hq rfl (by omega) rfl rfl rfl (by omega)) ?_
          | refine stm (v := .int .i64 kk) (h := ok_load_rowcellE (f := tcC) (n := 6) i 2 (fun _ => rfl) hq rfl (by omega) rfl rfl rfl (by omega)) ?_
          | refine st ?_
          | refine stm ?_
          | refine run_want rfl rfl ?_
          | refine run_unwant rfl rfl ?_
          | refine run_undef rfl rfl ?_
          | refine run_guard1t rfl rfl (by omega) ?_
          | refine run_guard1f rfl rfl (by omega) ?_
          | refine run_guard0t rfl rfl (by omega) ?_
          | refine run_guard0f rfl rfl (by omega) ?_
          | refine run_guard1 rfl rfl (fun h1 => ?_) (fun h1 => ?_)
          | refine run_guard0 rfl rfl (fun h1 => ?_) (fun h1 => ?_)
          | refine run_guard rfl rfl (fun h1 => ?_) (fun h1 => ?_)
          | refine run_nil ?_
          | refine aw_seq ?_
          | refine aw_region (by kernel_rfl) (Nat.le_of_ble_eq_true rfl) ?_
          | refine aw_block ?_
          | refine aw_cond_t rfl ?_
          | refine aw_cond_f rfl ?_
          | refine aw_cond_tp rfl (by omega) ?_
          | refine aw_cond_fp rfl (by omega) ?_
          | refine aw_cond1 rfl (fun h1 => ?_) (fun h1 => ?_)
          | refine aw_cond rfl (fun h1 => ?_) (fun h1 => ?_)
          | refine aw_skip ?_
          | refine aw_exit ?_
          | refine aw_ret ?_
          | refine pp_ret ?_
          | refine pp_normal ?_
        all_goals first | exact Exists.intro ⟨i + 1⟩ ⟨fitsD [0], ⟨hi, hst⟩, by dsimp only; omega⟩ | (exfalso; omega)
    · have hst := no_step (q := fun c : Ce => decide (c.1 = s ∧ c.2.2.1 = k)) g2 hq (decide_eq_false fun h => h1 h.1)
      repeat' first
        | refine st (v := .int .i64 sl) (h := ok_load_rowcellE (f := tcC) (n := 6) i 0 (fun _ => rfl) hq rfl (by omega) rfl rfl rfl (by omega)) ?_
        | refine st (v := .int .i64 kk) (h := ok_load_rowcellE (f := tcC) (n := 6) i 2 (fun _ => rfl) hq rfl (by omega) rfl rfl rfl (by omega)) ?_
        | refine stm (v := .int .i64 sl) (h := ok_load_rowcellE (f := tcC) (n := 6) i 0 (fun _ => rfl) hq rfl (by omega) rfl rfl rfl (by omega)) ?_
        | refine stm (v := .int .i64 kk) (h := ok_load_rowcellE (f := tcC) (n := 6) i 2 (fun _ => rfl) hq rfl (by omega) rfl rfl rfl (by omega)) ?_
        | refine st ?_
        | refine stm ?_
        | refine run_want rfl rfl ?_
        | refine run_unwant rfl rfl ?_
        | refine run_undef rfl rfl ?_
        | refine run_guard1t rfl rfl (by omega) ?_
        | refine run_guard1f rfl rfl (by omega) ?_
        | refine run_guard0t rfl rfl (by omega) ?_
        | refine run_guard0f rfl rfl (by omega) ?_
        | refine run_guard1 rfl rfl (fun h1 => ?_) (fun h1 => ?_)
        | refine run_guard0 rfl rfl (fun h1 => ?_) (fun h1 => ?_)
        | refine run_guard rfl rfl (fun h1 => ?_) (fun h1 => ?_)
        | refine run_nil ?_
        | refine aw_seq ?_
        | refine aw_region (by kernel_rfl) (Nat.le_of_ble_eq_true rfl) ?_
        | refine aw_block ?_
        | refine aw_cond_t rfl ?_
        | refine aw_cond_f rfl ?_
        | refine aw_cond_tp rfl (by omega) ?_
        | refine aw_cond_fp rfl (by omega) ?_
        | refine aw_cond1 rfl (fun h1 => ?_) (fun h1 => ?_)
        | refine aw_cond rfl (fun h1 => ?_) (fun h1 => ?_)
        | refine aw_skip ?_
        | refine aw_exit ?_
        | refine aw_ret ?_
        | refine pp_ret ?_
        | refine pp_normal ?_
      all_goals first | exact Exists.intro ⟨i + 1⟩ ⟨fitsD [0], ⟨hi, hst⟩, by dsimp only; omega⟩ | (exfalso; omega)
  · obtain rfl : i = n := by omega
    obtain rfl : x = false := by rw [← hx]; exact takN (by rw [hn]; exact g2)
    repeat' first
      | refine st ?_
      | refine stm ?_
      | refine run_want rfl rfl ?_
      | refine run_unwant rfl rfl ?_
      | refine run_undef rfl rfl ?_
      | refine run_guard1t rfl rfl (by omega) ?_
      | refine run_guard1f rfl rfl (by omega) ?_
      | refine run_guard0t rfl rfl (by omega) ?_
      | refine run_guard0f rfl rfl (by omega) ?_
      | refine run_guard1 rfl rfl (fun h1 => ?_) (fun h1 => ?_)
      | refine run_guard0 rfl rfl (fun h1 => ?_) (fun h1 => ?_)
      | refine run_guard rfl rfl (fun h1 => ?_) (fun h1 => ?_)
      | refine run_nil ?_
      | refine aw_seq ?_
      | refine aw_region (by kernel_rfl) (Nat.le_of_ble_eq_true rfl) ?_
      | refine aw_block ?_
      | refine aw_cond_t rfl ?_
      | refine aw_cond_f rfl ?_
      | refine aw_cond_tp rfl (by omega) ?_
      | refine aw_cond_fp rfl (by omega) ?_
      | refine aw_cond1 rfl (fun h1 => ?_) (fun h1 => ?_)
      | refine aw_cond rfl (fun h1 => ?_) (fun h1 => ?_)
      | refine aw_skip ?_
      | refine aw_exit ?_
      | refine aw_ret ?_
      | refine pp_ret ?_
      | refine pp_normal ?_
    all_goals first
      | rfl
      | (exfalso; omega)
      | (exfalso; simp only [Bool.not_eq_true', Bool.not_eq_false', decide_eq_true_eq, decide_eq_false_iff_not, Bool.not_false, Bool.not_true] at *; omega)
      | (exfalso; simp_all; first | done | omega)
set_option maxHeartbeats 4000000 in
theorem ac_putT (C : List Ce) (n : Nat) (hn : C.length = n) (hb : n ≤ 1000000) (sl of k pe fl : Int) (sd_ : Bool) : ACalls Try.prog 58 [.slice (some ⟨0, 0, none⟩) n n, .agg #[.int .i64 sl, .int .i64 of, .int .i64 k, .bool sd_, .int .i64 pe, .int .i64 fl]] [some ⟨C.flatMap tcC, false, 6⟩] (.slice (some ⟨1, 0, none⟩) (n + 1) (n + 1)) [none, some ⟨(putC (sl, of, k, sd_, pe, fl, ()) C).flatMap tcC, true, 6⟩] := by
  refine acalls_of_aw Try.func58 rfl rfl ?_
  refine aw_ghost 6 rfl ?_
  repeat' first
    | refine st ?_
    | refine stm ?_
    | refine run_want rfl rfl ?_
    | refine run_unwant rfl rfl ?_
    | refine run_undef rfl rfl ?_
    | refine run_guard1t rfl rfl (by omega) ?_
    | refine run_guard1f rfl rfl (by omega) ?_
    | refine run_guard0t rfl rfl (by omega) ?_
    | refine run_guard0f rfl rfl (by omega) ?_
    | refine run_guard1 rfl rfl (fun h1 => ?_) (fun h1 => ?_)
    | refine run_guard0 rfl rfl (fun h1 => ?_) (fun h1 => ?_)
    | refine run_guard rfl rfl (fun h1 => ?_) (fun h1 => ?_)
    | refine run_nil ?_
    | refine sd ?_
    | refine sdl ?_
    | refine sdm (n := 1) ?_
    | refine sdm ?_
    | refine sdb ?_
    | refine rund_want rfl rfl ?_
    | refine rund_unwant rfl rfl ?_
    | refine rund_undef rfl rfl ?_
    | refine rund_guard1 rfl rfl (fun h1 => ?_) (fun h1 => ?_)
    | refine rund_guard0 rfl rfl (fun h1 => ?_) (fun h1 => ?_)
    | refine rund_guard rfl rfl (fun h1 => ?_) (fun h1 => ?_)
    | refine rund_nil ?_
    | refine aw_seq ?_
    | refine aw_region (by kernel_rfl) (Nat.le_of_ble_eq_true rfl) ?_
    | refine aw_region_dC (id := 3) [0, 0, 2, 7, 15, 31, 31, 127, 255, 31, 1023, 2047] 12 (by (repeat constructor)) (by kernel_rfl) (by kernel_rfl) (by kernel_rfl) (by rfl) ?_
    | refine aw_block ?_
    | refine aw_cond_t rfl ?_
    | refine aw_cond_f rfl ?_
    | refine aw_cond_tp rfl (by omega) ?_
    | refine aw_cond_fp rfl (by omega) ?_
    | refine aw_cond1 rfl (fun h1 => ?_) (fun h1 => ?_)
    | refine aw_cond rfl (fun h1 => ?_) (fun h1 => ?_)
    | refine aw_skip ?_
    | refine aw_exit ?_
    | refine aw_ret ?_
    | refine pp_ret ?_
    | refine pp_normal ?_
  refine aw_loopg
    (S := fun y : Og => [(0, .slice (some ⟨0, 0, none⟩) n n), (3, .pointer (some ⟨2, 0, none⟩)), (5, .slice (some ⟨1, 0, none⟩) y.i y.i), (6, .int .i64 y.i)])
    (B := fun y : Og => [some ⟨C.flatMap tcC, false, 6⟩, some ⟨(C.take y.i).flatMap tcC, true, 6⟩, some ⟨[.int .i64 sl, .int .i64 of, .int .i64 k, .bool sd_, .int .i64 pe, .int .i64 fl], true, 1⟩])
    (R := fun y : Og => y.i ≤ n ∧ ∀ (j : Nat), j < y.i → ∀ a, C[j]? = some a → lessC a (sl, of, k, sd_, pe, fl, ()) = true)
    (μ := fun y : Og => n - y.i) ⟨0⟩ (fitsD [0, 1, 2]) ⟨Nat.zero_le _, fun j hj => absurd hj (Nat.not_lt_zero _)⟩ ?_
  rintro ⟨i⟩ ⟨g1, g2⟩
  dsimp only at *
  have hend : (∀ a, C[i]? = some a → lessC a (sl, of, k, sd_, pe, fl, ()) = false) → putC (sl, of, k, sd_, pe, fl, ()) C = C.take i ++ [(sl, of, k, sd_, pe, fl, ())] ++ C.drop i := fun h => by
    rw [putC_at (by omega) g2 h, List.append_assoc]
    rfl
  by_cases hi : i < n
  · obtain ⟨⟨sl', of', k', sd', pe', fl', u⟩, hq⟩ : ∃ q, C[i]? = some q := ⟨_, List.getElem?_eq_getElem (by omega)⟩
    obtain ⟨w, hw⟩ : ∃ w, lessC (sl', of', k', sd', pe', fl', u) (sl, of, k, sd_, pe, fl, ()) = w := ⟨_, rfl⟩
    have HL := ac_less sl' of' k' pe' fl' sl of k pe fl sd' sd_ w hw
    cases w
    · have hput := hend fun a ha => by rw [hq] at ha; cases ha; exact hw
      repeat' first
        | refine sdl (h := ok_load_rowsE (f := tcC) (cs := [.int .i64 sl', .int .i64 of', .int .i64 k', .bool sd', .int .i64 pe', .int .i64 fl']) (i) (fun _ => rfl) hq rfl rfl rfl rfl (by omega)) ?_
        | refine run_step (ok_append (cs := (C.take i ++ [(sl, of, k, sd_, pe, fl, ())]).flatMap tcC) (olds := (C.take i).flatMap tcC) rfl rfl rfl rfl rfl rfl (Src.slc rfl Ty.eq rfl (Nat.le_of_ble_eq_true rfl) rfl rfl rfl) (by rw [tcC_len, List.length_take]; omega) (take_full' (by rw [tcC_len, List.length_take]; omega)) (by rw [List.flatMap_append]; rfl) (by omega) (by (repeat constructor))) (Nat.le_of_ble_eq_true rfl) ?_
        | refine run_step (ok_append (cs := (putC (sl, of, k, sd_, pe, fl, ()) C).flatMap tcC) (olds := (C.take i ++ [(sl, of, k, sd_, pe, fl, ())]).flatMap tcC) (xs := (C.drop i).flatMap tcC) rfl rfl rfl rfl rfl rfl (Src.slc rfl Ty.eq rfl (by rw [tcC_len]; omega) (tcC_src hn) (tcC_one _) rfl) (by rw [tcC_len, List.length_append, List.length_take, List.length_singleton]; omega) (take_full' (by rw [tcC_len, List.length_append, List.length_take, List.length_singleton]; omega)) (by rw [hput]; simp only [List.flatMap_append]) (by omega) (by (repeat constructor))) (Nat.le_of_ble_eq_true rfl) ?_
        | refine st ?_
        | refine st_call (HL) ?_
        | refine sd_call (HL) ?_
        | refine stm ?_
        | refine run_want rfl rfl ?_
        | refine run_unwant rfl rfl ?_
        | refine run_undef rfl rfl ?_
        | refine run_guard1t rfl rfl (by omega) ?_
        | refine run_guard1f rfl rfl (by omega) ?_
        | refine run_guard0t rfl rfl (by omega) ?_
        | refine run_guard0f rfl rfl (by omega) ?_
        | refine run_guard1 rfl rfl (fun h1 => ?_) (fun h1 => ?_)
        | refine run_guard0 rfl rfl (fun h1 => ?_) (fun h1 => ?_)
        | refine run_guard rfl rfl (fun h1 => ?_) (fun h1 => ?_)
        | refine run_nil ?_
        | refine sd ?_
        | refine sdl ?_
        | refine sdm (n := 1) ?_
        | refine sdm ?_
        | refine sdb ?_
        | refine rund_want rfl rfl ?_
        | refine rund_unwant rfl rfl ?_
        | refine rund_undef rfl rfl ?_
        | refine rund_guard1 rfl rfl (fun h1 => ?_) (fun h1 => ?_)
        | refine rund_guard0 rfl rfl (fun h1 => ?_) (fun h1 => ?_)
        | refine rund_guard rfl rfl (fun h1 => ?_) (fun h1 => ?_)
        | refine rund_nil ?_
        | refine aw_seq ?_
        | refine aw_region (by kernel_rfl) (Nat.le_of_ble_eq_true rfl) ?_
        | refine aw_region_dC (id := 3) [0, 0, 2, 7, 15, 31, 31, 127, 255, 31, 1023, 2047] 12 (by (repeat constructor)) (by kernel_rfl) (by kernel_rfl) (by kernel_rfl) (by rfl) ?_
        | refine aw_block ?_
        | refine aw_cond_t rfl ?_
        | refine aw_cond_f rfl ?_
        | refine aw_cond_tp rfl (by omega) ?_
        | refine aw_cond_fp rfl (by omega) ?_
        | refine aw_cond1 rfl (fun h1 => ?_) (fun h1 => ?_)
        | refine aw_cond rfl (fun h1 => ?_) (fun h1 => ?_)
        | refine aw_skip ?_
        | refine aw_exit ?_
        | refine aw_ret ?_
        | refine pp_ret ?_
        | refine pp_normal ?_
      all_goals first | (rw [show i + 1 + (n - ((i : Int)).toNat) = n + 1 by omega]; exact pm_ret _ (renumD [0, 5]) rfl) | (exfalso; omega)
    · have hst : ∀ (j : Nat), j < i + 1 → ∀ a, C[j]? = some a → lessC a (sl, of, k, sd_, pe, fl, ()) = true := fun j hj a ha => by
        rcases Nat.lt_or_ge j i with h | h
        · exact g2 j h a ha
        · obtain rfl : j = i := by omega
          rw [hq] at ha; cases ha; exact hw
      repeat' first
        | refine sdl (h := ok_load_rowsE (f := tcC) (cs := [.int .i64 sl', .int .i64 of', .int .i64 k', .bool sd', .int .i64 pe', .int .i64 fl']) (i) (fun _ => rfl) hq rfl rfl rfl rfl (by omega)) ?_
        | refine st (h := ok_load_rowsE (f := tcC) (cs := [.int .i64 sl', .int .i64 of', .int .i64 k', .bool sd', .int .i64 pe', .int .i64 fl']) (i) (fun _ => rfl) hq rfl rfl rfl rfl (by omega)) ?_
        | refine run_step (ok_append (cs := (C.take (i + 1)).flatMap tcC) (olds := (C.take i).flatMap tcC) rfl rfl rfl rfl rfl rfl (Src.slc rfl Ty.eq rfl (Nat.le_of_ble_eq_true rfl) rfl rfl rfl) (by rw [tcC_len, List.length_take]; omega) (take_full' (by rw [tcC_len, List.length_take]; omega)) (by exact tcC_snoc hq) (by omega) (by (repeat constructor))) (Nat.le_of_ble_eq_true rfl) ?_
        | refine st ?_
        | refine st_call (HL) ?_
        | refine sd_call (HL) ?_
        | refine stm ?_
        | refine run_want rfl rfl ?_
        | refine run_unwant rfl rfl ?_
        | refine run_undef rfl rfl ?_
        | refine run_guard1t rfl rfl (by omega) ?_
        | refine run_guard1f rfl rfl (by omega) ?_
        | refine run_guard0t rfl rfl (by omega) ?_
        | refine run_guard0f rfl rfl (by omega) ?_
        | refine run_guard1 rfl rfl (fun h1 => ?_) (fun h1 => ?_)
        | refine run_guard0 rfl rfl (fun h1 => ?_) (fun h1 => ?_)
        | refine run_guard rfl rfl (fun h1 => ?_) (fun h1 => ?_)
        | refine run_nil ?_
        | refine sd ?_
        | refine sdl ?_
        | refine sdm (n := 1) ?_
        | refine sdm ?_
        | refine sdb ?_
        | refine rund_want rfl rfl ?_
        | refine rund_unwant rfl rfl ?_
        | refine rund_undef rfl rfl ?_
        | refine rund_guard1 rfl rfl (fun h1 => ?_) (fun h1 => ?_)
        | refine rund_guard0 rfl rfl (fun h1 => ?_) (fun h1 => ?_)
        | refine rund_guard rfl rfl (fun h1 => ?_) (fun h1 => ?_)
        | refine rund_nil ?_
        | refine aw_seq ?_
        | refine aw_region (by kernel_rfl) (Nat.le_of_ble_eq_true rfl) ?_
        | refine aw_region_dC (id := 3) [0, 0, 2, 7, 15, 31, 31, 127, 255, 31, 1023, 2047] 12 (by (repeat constructor)) (by kernel_rfl) (by kernel_rfl) (by kernel_rfl) (by rfl) ?_
        | refine aw_block ?_
        | refine aw_cond_t rfl ?_
        | refine aw_cond_f rfl ?_
        | refine aw_cond_tp rfl (by omega) ?_
        | refine aw_cond_fp rfl (by omega) ?_
        | refine aw_cond1 rfl (fun h1 => ?_) (fun h1 => ?_)
        | refine aw_cond rfl (fun h1 => ?_) (fun h1 => ?_)
        | refine aw_skip ?_
        | refine aw_exit ?_
        | refine aw_ret ?_
        | refine pp_ret ?_
        | refine pp_normal ?_
      all_goals first | exact Exists.intro ⟨i + 1⟩ ⟨fitsD [0, 4, 2], ⟨hi, hst⟩, by dsimp only; omega⟩ | (exfalso; omega)
  · obtain rfl : i = n := by omega
    have hput := hend fun a ha => by rw [List.getElem?_eq_none (by omega)] at ha; cases ha
    repeat' first
      | refine run_step (ok_append (cs := (C.take i ++ [(sl, of, k, sd_, pe, fl, ())]).flatMap tcC) (olds := (C.take i).flatMap tcC) rfl rfl rfl rfl rfl rfl (Src.slc rfl Ty.eq rfl (Nat.le_of_ble_eq_true rfl) rfl rfl rfl) (by rw [tcC_len, List.length_take]; omega) (take_full' (by rw [tcC_len, List.length_take]; omega)) (by rw [List.flatMap_append]; rfl) (by omega) (by (repeat constructor))) (Nat.le_of_ble_eq_true rfl) ?_
      | refine run_step (ok_append (cs := (putC (sl, of, k, sd_, pe, fl, ()) C).flatMap tcC) (olds := (C.take i ++ [(sl, of, k, sd_, pe, fl, ())]).flatMap tcC) (xs := (C.drop i).flatMap tcC) rfl rfl rfl rfl rfl rfl (Src.slc rfl Ty.eq rfl (by rw [tcC_len]; omega) (tcC_src hn) (tcC_one _) rfl) (by rw [tcC_len, List.length_append, List.length_take, List.length_singleton]; omega) (take_full' (by rw [tcC_len, List.length_append, List.length_take, List.length_singleton]; omega)) (by rw [hput]; simp only [List.flatMap_append]) (by omega) (by (repeat constructor))) (Nat.le_of_ble_eq_true rfl) ?_
      | refine st ?_
      | refine stm ?_
      | refine run_want rfl rfl ?_
      | refine run_unwant rfl rfl ?_
      | refine run_undef rfl rfl ?_
      | refine run_guard1t rfl rfl (by omega) ?_
      | refine run_guard1f rfl rfl (by omega) ?_
      | refine run_guard0t rfl rfl (by omega) ?_
      | refine run_guard0f rfl rfl (by omega) ?_
      | refine run_guard1 rfl rfl (fun h1 => ?_) (fun h1 => ?_)
      | refine run_guard0 rfl rfl (fun h1 => ?_) (fun h1 => ?_)
      | refine run_guard rfl rfl (fun h1 => ?_) (fun h1 => ?_)
      | refine run_nil ?_
      | refine sd ?_
      | refine sdl ?_
      | refine sdm (n := 1) ?_
      | refine sdm ?_
      | refine sdb ?_
      | refine rund_want rfl rfl ?_
      | refine rund_unwant rfl rfl ?_
      | refine rund_undef rfl rfl ?_
      | refine rund_guard1 rfl rfl (fun h1 => ?_) (fun h1 => ?_)
      | refine rund_guard0 rfl rfl (fun h1 => ?_) (fun h1 => ?_)
      | refine rund_guard rfl rfl (fun h1 => ?_) (fun h1 => ?_)
      | refine rund_nil ?_
      | refine aw_seq ?_
      | refine aw_region (by kernel_rfl) (Nat.le_of_ble_eq_true rfl) ?_
      | refine aw_region_dC (id := 3) [0, 0, 2, 7, 15, 31, 31, 127, 255, 31, 1023, 2047] 12 (by (repeat constructor)) (by kernel_rfl) (by kernel_rfl) (by kernel_rfl) (by rfl) ?_
      | refine aw_block ?_
      | refine aw_cond_t rfl ?_
      | refine aw_cond_f rfl ?_
      | refine aw_cond_tp rfl (by omega) ?_
      | refine aw_cond_fp rfl (by omega) ?_
      | refine aw_cond1 rfl (fun h1 => ?_) (fun h1 => ?_)
      | refine aw_cond rfl (fun h1 => ?_) (fun h1 => ?_)
      | refine aw_skip ?_
      | refine aw_exit ?_
      | refine aw_ret ?_
      | refine pp_ret ?_
      | refine pp_normal ?_
    all_goals first | (rw [show i + 1 + (i - ((i : Int)).toNat) = i + 1 by omega]; exact pm_ret _ (renumD [0, 5]) rfl) | (exfalso; omega)
end Go.Proofs.Ytfabgdignlfihaa
