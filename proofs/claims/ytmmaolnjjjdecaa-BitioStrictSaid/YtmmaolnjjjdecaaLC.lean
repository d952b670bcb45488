/- BitioStops: the law. -/
import Derived.Test.YtmmaolnjjjdecaaLA
import Derived.Test.YtmmaolnjjjdecaaE2
import Derived.Test.YtmmaolnjjjdecaaD7
set_option linter.unusedVariables false
set_option linter.unusedSimpArgs false
namespace Go.Proofs.Ytmmaolnjjjdecaa
open Go Av
set_option maxRecDepth 20000
theorem rdF_err {d : ByteArray} {a a' : Nat} {e e' q w x w' x' : Int} {t t' : ByteArray} (h : rdF d a e q w x t = ((w', x', t'), a', e')) (he : e ≠ 0) : e' = e ∧ (0 ≤ q ∧ q ≤ 3 → x' = 0 ∧ t' = ⟨#[]⟩) := by
  have key : ∀ {r : Bool} {w : Int}, fieldR d a e r w = (0, a, e) := fun {r w} => by unfold fieldR; rw [if_pos he]
  unfold rdF at h
  split at h
  · unfold unsR at h
    rw [key] at h
    simp only [Prod.mk.injEq] at h
    obtain ⟨⟨_, rfl, rfl⟩, _, rfl⟩ := h
    exact ⟨rfl, fun _ => ⟨rfl, rfl⟩⟩
  · split at h
    · unfold sgnR at h
      rw [key] at h
      have hp : (0 : Int) < 2 ^ (w - 1).toNat := Int.pow_pos (by decide)
      dsimp only at h
      rw [if_neg (by omega)] at h
      simp only [Prod.mk.injEq] at h
      obtain ⟨⟨_, rfl, rfl⟩, _, rfl⟩ := h
      exact ⟨rfl, fun _ => ⟨rfl, rfl⟩⟩
    · split at h
      · unfold flgR at h
        rw [key] at h
        simp only [Prod.mk.injEq] at h
        obtain ⟨⟨_, h1, rfl⟩, _, rfl⟩ := h
        exact ⟨rfl, fun _ => ⟨by rw [← h1]; simp, rfl⟩⟩
      · split at h
        · unfold txtR at h
          rw [key] at h
          dsimp only at h
          rw [if_pos he] at h
          simp only [Prod.mk.injEq] at h
          obtain ⟨⟨_, rfl, rfl⟩, _, rfl⟩ := h
          exact ⟨rfl, fun _ => ⟨rfl, rfl⟩⟩
        · simp only [Prod.mk.injEq] at h
          obtain ⟨_, _, rfl⟩ := h
          exact ⟨rfl, fun h => by omega⟩
structure S1g where
  i : Nat
  a : Nat
  e : Int
set_option maxHeartbeats 8000000 in
theorem law_stops (d : ByteArray) (l : List Fd) (hr : ∀ f ∈ l, FdR f) : ACalls Try.prog 9 [.string d, .slice (some ⟨0, 0, none⟩) l.length l.length] [some ⟨l.flatMap fdC, false, 4⟩] (.bool true) [none] := by
  have hF := ac_few l
  obtain ⟨N, hN⟩ : ∃ N, l.length = N := ⟨_, rfl⟩
  by_cases hf : d.size ≤ 300 ∧ fewB l = true
  · obtain ⟨hd, hf⟩ := hf
    rw [hf] at hF
    obtain ⟨f1, f2⟩ := fewB_len hf
    rw [hN] at hF f1 ⊢
    have h0 := ac_newR d (by omega)
    refine acalls_law Try.func9 rfl rfl rfl ?_
    repeat' first
      | refine st ?_
      | refine st_call (ac_awake) ?_
      | refine stRW [0] hF ?_
      | refine stMW [] h0 ?_
      | refine stm ?_
      | refine run_want rfl rfl ?_
      | refine run_unwant rfl rfl ?_
      | refine run_undef rfl rfl ?_
      | refine run_guard1t rfl rfl (by omega) ?_
      | refine run_guard1f rfl rfl (by omega) ?_
      | refine run_guard0t rfl rfl (by omega) ?_
      | refine run_guard0f rfl rfl (by omega) ?_
      | refine run_guard1 rfl rfl (fun h1 => ?_) (fun h1 => ?_)
      | refine run_guard0 rfl rfl (fun h1 => ?_) (fun h1 => ?_)
      | refine run_guard rfl rfl (fun h1 => ?_) (fun h1 => ?_)
      | refine run_nil ?_
      | refine aw_seq ?_
      | refine aw_region (by kernel_rfl) (Nat.le_of_ble_eq_true rfl) ?_
      | refine aw_block ?_
      | refine aw_cond_t rfl ?_
      | refine aw_cond_f rfl ?_
      | refine aw_cond_tp rfl (by omega) ?_
      | refine aw_cond_fp rfl (by omega) ?_
      | refine aw_cond1 rfl (fun h1 => ?_) (fun h1 => ?_)
      | refine aw_cond rfl (fun h1 => ?_) (fun h1 => ?_)
      | refine aw_skip ?_
      | refine aw_exit ?_
      | refine aw_ret ?_
      | refine pp_ret ?_
      | refine pp_normal ?_
    clear hF h0
    refine aw_loopg
      (S := fun y : S1g => [(5, .pointer (some ⟨1, 0, none⟩)), (6, .int .i64 y.e), (24, .slice (some ⟨0, 0, none⟩) N N), (25, .int .i64 N), (26, .int .i64 y.i)])
      (B := fun y : S1g => [some ⟨l.flatMap fdC, false, 4⟩, some ⟨[.string d, .int .i64 (y.a : Int), .int .i64 y.e], true, 1⟩])
      (R := fun y : S1g => y.i ≤ N ∧ y.a ≤ 8 * d.size)
      (μ := fun y : S1g => N - y.i) ⟨0, 0, 0⟩ (fitsD [0, 1]) ⟨Nat.zero_le _, Nat.zero_le _⟩ ?_
    rintro ⟨i, a, e⟩ ⟨g1, ha⟩
    dsimp only at *
    by_cases hi : i < N
    · obtain ⟨⟨q, w, x, t, u⟩, hq⟩ : ∃ q, l[i]? = some q := ⟨_, List.getElem?_eq_getElem (by omega)⟩
      obtain ⟨r1, r2, r3⟩ := hr _ (List.mem_of_getElem? hq)
      dsimp only at r1 r2 r3
      obtain ⟨w', x', t', a', e', hst⟩ : ∃ w' x' t' a' e', rdF d a e q w x t = ((w', x', t'), a', e') := ⟨_, _, _, _, _, rfl⟩
      have hle := rdF_le hst ha
      have HX := ac_read q w x t w' x' t' e e' a a' d hst ha (by omega) r2
      have H5 := ac_err a' e' d
      obtain ⟨c, hc⟩ : ∃ c, closeR d a' e' = c := ⟨_, rfl⟩
      have H3 := ac_closeR e' c a' d hc hle (by omega)
      by_cases he : e = 0
      · by_cases he' : e' = 0
        · subst he he'
          repeat' first
            | refine st (h := ok_load_rowsE (f := fdC) (cs := [.int .i64 q, .int .i64 w, .int .i64 x, .string t]) i (fun _ => rfl) hq rfl rfl rfl rfl (by omega)) ?_
            | refine st (h := ok_str_eqlT rfl rfl) ?_
            | refine st (h := ok_str_neqF rfl rfl) ?_
            | refine st ?_
            | refine stMW [1] HX ?_
            | refine stRW [1] H5 ?_
            | refine stRW [1] H3 ?_
            | refine stm ?_
            | refine run_want rfl rfl ?_
            | refine run_unwant rfl rfl ?_
            | refine run_undef rfl rfl ?_
            | refine run_guard1t rfl rfl (by omega) ?_
            | refine run_guard1f rfl rfl (by omega) ?_
            | refine run_guard0t rfl rfl (by omega) ?_
            | refine run_guard0f rfl rfl (by omega) ?_
            | refine run_guard1 rfl rfl (fun h1 => ?_) (fun h1 => ?_)
            | refine run_guard0 rfl rfl (fun h1 => ?_) (fun h1 => ?_)
            | refine run_guard rfl rfl (fun h1 => ?_) (fun h1 => ?_)
            | refine run_nil ?_
            | refine aw_seq ?_
            | refine aw_region (by kernel_rfl) (Nat.le_of_ble_eq_true rfl) ?_
            | refine aw_block ?_
            | refine aw_cond_t rfl ?_
            | refine aw_cond_f rfl ?_
            | refine aw_cond_tp rfl (by omega) ?_
            | refine aw_cond_fp rfl (by omega) ?_
            | refine aw_cond1 rfl (fun h1 => ?_) (fun h1 => ?_)
            | refine aw_cond rfl (fun h1 => ?_) (fun h1 => ?_)
            | refine aw_skip ?_
            | refine aw_exit ?_
            | refine aw_ret ?_
            | refine pp_ret ?_
            | refine pp_normal ?_
          all_goals first | exact Exists.intro ⟨i + 1, a', 0⟩ ⟨fitsD [0, 1], ⟨hi, hle⟩, by dsimp only; omega⟩ | (exfalso; omega)
        · have H1 := ac_left0 a' e' d he'
          obtain rfl : e' = c := by rw [← hc]; unfold closeR; rw [if_pos he']
          subst he
          repeat' first
            | refine st (h := ok_load_rowsE (f := fdC) (cs := [.int .i64 q, .int .i64 w, .int .i64 x, .string t]) i (fun _ => rfl) hq rfl rfl rfl rfl (by omega)) ?_
            | refine st (h := ok_str_eqlT rfl rfl) ?_
            | refine st (h := ok_str_neqF rfl rfl) ?_
            | refine st ?_
            | refine stMW [1] HX ?_
            | refine stRW [1] H5 ?_
            | refine stRW [1] H3 ?_
            | refine stRW [1] H1 ?_
            | refine stm ?_
            | refine run_want rfl rfl ?_
            | refine run_unwant rfl rfl ?_
            | refine run_undef rfl rfl ?_
            | refine run_guard1t rfl rfl (by omega) ?_
            | refine run_guard1f rfl rfl (by omega) ?_
            | refine run_guard0t rfl rfl (by omega) ?_
            | refine run_guard0f rfl rfl (by omega) ?_
            | refine run_guard1 rfl rfl (fun h1 => ?_) (fun h1 => ?_)
            | refine run_guard0 rfl rfl (fun h1 => ?_) (fun h1 => ?_)
            | refine run_guard rfl rfl (fun h1 => ?_) (fun h1 => ?_)
            | refine run_nil ?_
            | refine aw_seq ?_
            | refine aw_region (by kernel_rfl) (Nat.le_of_ble_eq_true rfl) ?_
            | refine aw_block ?_
            | refine aw_cond_t rfl ?_
            | refine aw_cond_f rfl ?_
            | refine aw_cond_tp rfl (by omega) ?_
            | refine aw_cond_fp rfl (by omega) ?_
            | refine aw_cond1 rfl (fun h1 => ?_) (fun h1 => ?_)
            | refine aw_cond rfl (fun h1 => ?_) (fun h1 => ?_)
            | refine aw_skip ?_
            | refine aw_exit ?_
            | refine aw_ret ?_
            | refine pp_ret ?_
            | refine pp_normal ?_
          all_goals first | exact Exists.intro ⟨i + 1, a', e'⟩ ⟨fitsD [0, 1], ⟨hi, hle⟩, by dsimp only; omega⟩ | (exfalso; omega)
      · obtain ⟨rfl, hx⟩ := rdF_err hst he
        have H1 := ac_left0 a' e' d he
        obtain rfl : e' = c := by rw [← hc]; unfold closeR; rw [if_pos he]
        by_cases hk : 0 ≤ q ∧ q ≤ 3
        · obtain ⟨rfl, rfl⟩ := hx hk
          repeat' first
            | refine st (h := ok_load_rowsE (f := fdC) (cs := [.int .i64 q, .int .i64 w, .int .i64 x, .string t]) i (fun _ => rfl) hq rfl rfl rfl rfl (by omega)) ?_
            | refine st (h := ok_str_eqlT rfl rfl) ?_
            | refine st (h := ok_str_neqF rfl rfl) ?_
            | refine st ?_
            | refine stMW [1] HX ?_
            | refine stRW [1] H5 ?_
            | refine stRW [1] H3 ?_
            | refine stRW [1] H1 ?_
            | refine stm ?_
            | refine run_want rfl rfl ?_
            | refine run_unwant rfl rfl ?_
            | refine run_undef rfl rfl ?_
            | refine run_guard1t rfl rfl (by omega) ?_
            | refine run_guard1f rfl rfl (by omega) ?_
            | refine run_guard0t rfl rfl (by omega) ?_
            | refine run_guard0f rfl rfl (by omega) ?_
            | refine run_guard1 rfl rfl (fun h1 => ?_) (fun h1 => ?_)
            | refine run_guard0 rfl rfl (fun h1 => ?_) (fun h1 => ?_)
            | refine run_guard rfl rfl (fun h1 => ?_) (fun h1 => ?_)
            | refine run_nil ?_
            | refine aw_seq ?_
            | refine aw_region (by kernel_rfl) (Nat.le_of_ble_eq_true rfl) ?_
            | refine aw_block ?_
            | refine aw_cond_t rfl ?_
            | refine aw_cond_f rfl ?_
            | refine aw_cond_tp rfl (by omega) ?_
            | refine aw_cond_fp rfl (by omega) ?_
            | refine aw_cond1 rfl (fun h1 => ?_) (fun h1 => ?_)
            | refine aw_cond rfl (fun h1 => ?_) (fun h1 => ?_)
            | refine aw_skip ?_
            | refine aw_exit ?_
            | refine aw_ret ?_
            | refine pp_ret ?_
            | refine pp_normal ?_
          all_goals first | exact Exists.intro ⟨i + 1, a', e'⟩ ⟨fitsD [0, 1], ⟨hi, hle⟩, by dsimp only; omega⟩ | (exfalso; omega)
        · clear hx
          repeat' first
            | refine st (h := ok_load_rowsE (f := fdC) (cs := [.int .i64 q, .int .i64 w, .int .i64 x, .string t]) i (fun _ => rfl) hq rfl rfl rfl rfl (by omega)) ?_
            | refine st (h := ok_str_eqlT rfl rfl) ?_
            | refine st (h := ok_str_neqF rfl rfl) ?_
            | refine st ?_
            | refine stMW [1] HX ?_
            | refine stRW [1] H5 ?_
            | refine stRW [1] H3 ?_
            | refine stRW [1] H1 ?_
            | refine stm ?_
            | refine run_want rfl rfl ?_
            | refine run_unwant rfl rfl ?_
            | refine run_undef rfl rfl ?_
            | refine run_guard1t rfl rfl (by omega) ?_
            | refine run_guard1f rfl rfl (by omega) ?_
            | refine run_guard0t rfl rfl (by omega) ?_
            | refine run_guard0f rfl rfl (by omega) ?_
            | refine run_guard1 rfl rfl (fun h1 => ?_) (fun h1 => ?_)
            | refine run_guard0 rfl rfl (fun h1 => ?_) (fun h1 => ?_)
            | refine run_guard rfl rfl (fun h1 => ?_) (fun h1 => ?_)
            | refine run_nil ?_
            | refine aw_seq ?_
            | refine aw_region (by kernel_rfl) (Nat.le_of_ble_eq_true rfl) ?_
            | refine aw_block ?_
            | refine aw_cond_t rfl ?_
            | refine aw_cond_f rfl ?_
            | refine aw_cond_tp rfl (by omega) ?_
            | refine aw_cond_fp rfl (by omega) ?_
            | refine aw_cond1 rfl (fun h1 => ?_) (fun h1 => ?_)
            | refine aw_cond rfl (fun h1 => ?_) (fun h1 => ?_)
            | refine aw_skip ?_
            | refine aw_exit ?_
            | refine aw_ret ?_
            | refine pp_ret ?_
            | refine pp_normal ?_
          all_goals first | exact Exists.intro ⟨i + 1, a', e'⟩ ⟨fitsD [0, 1], ⟨hi, hle⟩, by dsimp only; omega⟩ | (exfalso; omega)
    · have H5 := ac_err a e d
      repeat' first
        | refine st ?_
        | refine stRW [1] H5 ?_
        | refine stm ?_
        | refine run_want rfl rfl ?_
        | refine run_unwant rfl rfl ?_
        | refine run_undef rfl rfl ?_
        | refine run_guard1t rfl rfl (by omega) ?_
        | refine run_guard1f rfl rfl (by omega) ?_
        | refine run_guard0t rfl rfl (by omega) ?_
        | refine run_guard0f rfl rfl (by omega) ?_
        | refine run_guard1 rfl rfl (fun h1 => ?_) (fun h1 => ?_)
        | refine run_guard0 rfl rfl (fun h1 => ?_) (fun h1 => ?_)
        | refine run_guard rfl rfl (fun h1 => ?_) (fun h1 => ?_)
        | refine run_nil ?_
        | refine aw_seq ?_
        | refine aw_region (by kernel_rfl) (Nat.le_of_ble_eq_true rfl) ?_
        | refine aw_block ?_
        | refine aw_cond_t rfl ?_
        | refine aw_cond_f rfl ?_
        | refine aw_cond_tp rfl (by omega) ?_
        | refine aw_cond_fp rfl (by omega) ?_
        | refine aw_cond1 rfl (fun h1 => ?_) (fun h1 => ?_)
        | refine aw_cond rfl (fun h1 => ?_) (fun h1 => ?_)
        | refine aw_skip ?_
        | refine aw_exit ?_
        | refine aw_ret ?_
        | refine pp_ret ?_
        | refine pp_normal ?_
      all_goals first | rfl | simp [retOf] | (exfalso; omega)
  · by_cases hd : d.size ≤ 300
    · have hf : fewB l = false := by rw [← Bool.not_eq_true]; exact fun h => hf ⟨hd, h⟩
      rw [hf] at hF
      rw [hN] at hF ⊢
      refine acalls_law Try.func9 rfl rfl rfl ?_
      repeat' first
        | refine st ?_
        | refine st_call (ac_awake) ?_
        | refine stRW [0] hF ?_
        | refine stm ?_
        | refine run_want rfl rfl ?_
        | refine run_unwant rfl rfl ?_
        | refine run_undef rfl rfl ?_
        | refine run_guard1t rfl rfl (by omega) ?_
        | refine run_guard1f rfl rfl (by omega) ?_
        | refine run_guard0t rfl rfl (by omega) ?_
        | refine run_guard0f rfl rfl (by omega) ?_
        | refine run_guard1 rfl rfl (fun h1 => ?_) (fun h1 => ?_)
        | refine run_guard0 rfl rfl (fun h1 => ?_) (fun h1 => ?_)
        | refine run_guard rfl rfl (fun h1 => ?_) (fun h1 => ?_)
        | refine run_nil ?_
        | refine aw_seq ?_
        | refine aw_region (by kernel_rfl) (Nat.le_of_ble_eq_true rfl) ?_
        | refine aw_block ?_
        | refine aw_cond_t rfl ?_
        | refine aw_cond_f rfl ?_
        | refine aw_cond_tp rfl (by omega) ?_
        | refine aw_cond_fp rfl (by omega) ?_
        | refine aw_cond1 rfl (fun h1 => ?_) (fun h1 => ?_)
        | refine aw_cond rfl (fun h1 => ?_) (fun h1 => ?_)
        | refine aw_skip ?_
        | refine aw_exit ?_
        | refine aw_ret ?_
        | refine pp_ret ?_
        | refine pp_normal ?_
      all_goals first | rfl | (exfalso; omega)
    · rw [hN]
      refine acalls_law Try.func9 rfl rfl rfl ?_
      repeat' first
        | refine st ?_
        | refine st_call (ac_awake) ?_
        | refine stm ?_
        | refine run_want rfl rfl ?_
        | refine run_unwant rfl rfl ?_
        | refine run_undef rfl rfl ?_
        | refine run_guard1t rfl rfl (by omega) ?_
        | refine run_guard1f rfl rfl (by omega) ?_
        | refine run_guard0t rfl rfl (by omega) ?_
        | refine run_guard0f rfl rfl (by omega) ?_
        | refine run_guard1 rfl rfl (fun h1 => ?_) (fun h1 => ?_)
        | refine run_guard0 rfl rfl (fun h1 => ?_) (fun h1 => ?_)
        | refine run_guard rfl rfl (fun h1 => ?_) (fun h1 => ?_)
        | refine run_nil ?_
        | refine aw_seq ?_
        | refine aw_region (by kernel_rfl) (Nat.le_of_ble_eq_true rfl) ?_
        | refine aw_block ?_
        | refine aw_cond_t rfl ?_
        | refine aw_cond_f rfl ?_
        | refine aw_cond_tp rfl (by omega) ?_
        | refine aw_cond_fp rfl (by omega) ?_
        | refine aw_cond1 rfl (fun h1 => ?_) (fun h1 => ?_)
        | refine aw_cond rfl (fun h1 => ?_) (fun h1 => ?_)
        | refine aw_skip ?_
        | refine aw_exit ?_
        | refine aw_ret ?_
        | refine pp_ret ?_
        | refine pp_normal ?_
      all_goals first | rfl | (exfalso; omega)
end Go.Proofs.Ytmmaolnjjjdecaa
