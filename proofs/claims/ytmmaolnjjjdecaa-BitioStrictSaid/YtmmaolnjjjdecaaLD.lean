/- BitioStrict: the law. -/
import Derived.Test.YtmmaolnjjjdecaaLC
import Derived.Test.YtmmaolnjjjdecaaE6
set_option linter.unusedVariables false
set_option linter.unusedSimpArgs false
namespace Go.Proofs.Ytmmaolnjjjdecaa
open Go Av
set_option maxRecDepth 20000
structure T1g where
  i : Nat
  a : Nat
  e : Int
  bs : List Int
  Z : List Int
  n : Nat
  k : Int
  e2 : Int
set_option maxHeartbeats 8000000 in
theorem law_strict (d : ByteArray) (l : List Fd) (hr : ∀ f ∈ l, FdR f) : ACalls Try.prog 4 [.string d, .slice (some ⟨0, 0, none⟩) l.length l.length] [some ⟨l.flatMap fdC, false, 4⟩] (.bool true) [none] := by
  have hF := ac_few l
  obtain ⟨N, hN⟩ : ∃ N, l.length = N := ⟨_, rfl⟩
  by_cases hf : d.size ≤ 300 ∧ fewB l = true
  · obtain ⟨hd, hf⟩ := hf
    rw [hf] at hF
    obtain ⟨f1, f2⟩ := fewB_len hf
    rw [hN] at hF f1 ⊢
    have h0 := ac_newR d (by omega)
    refine acalls_law Try.func4 rfl rfl rfl ?_
    repeat' first
      | refine st ?_
      | refine st_call (ac_awake) ?_
      | refine stRW [0] hF ?_
      | refine stMW [] h0 ?_
      | refine stMW [] ac_newW ?_
      | refine stm ?_
      | refine run_want rfl rfl ?_
      | refine run_unwant rfl rfl ?_
      | refine run_undef rfl rfl ?_
      | refine run_guard1t rfl rfl (by omega) ?_
      | refine run_guard1f rfl rfl (by omega) ?_
      | refine run_guard0t rfl rfl (by omega) ?_
      | refine run_guard0f rfl rfl (by omega) ?_
      | refine run_guard1 rfl rfl (fun h1 => ?_) (fun h1 => ?_)
      | refine run_guard0 rfl rfl (fun h1 => ?_) (fun h1 => ?_)
      | refine run_guard rfl rfl (fun h1 => ?_) (fun h1 => ?_)
      | refine run_nil ?_
      | refine aw_seq ?_
      | refine aw_region (by kernel_rfl) (Nat.le_of_ble_eq_true rfl) ?_
      | refine aw_block ?_
      | refine aw_cond_t rfl ?_
      | refine aw_cond_f rfl ?_
      | refine aw_cond_tp rfl (by omega) ?_
      | refine aw_cond_fp rfl (by omega) ?_
      | refine aw_cond1 rfl (fun h1 => ?_) (fun h1 => ?_)
      | refine aw_cond rfl (fun h1 => ?_) (fun h1 => ?_)
      | refine aw_skip ?_
      | refine aw_exit ?_
      | refine aw_ret ?_
      | refine pp_ret ?_
      | refine pp_normal ?_
    clear hF h0
    refine aw_loopg
      (S := fun y : T1g => [(0, .string d), (5, .pointer (some ⟨1, 0, none⟩)), (6, .pointer (some ⟨2, 0, none⟩)), (31, .slice (some ⟨0, 0, none⟩) N N), (32, .int .i64 N), (33, .int .i64 y.i)])
      (B := fun y : T1g => [some ⟨l.flatMap fdC, false, 4⟩, some ⟨[.string d, .int .i64 (y.a : Int), .int .i64 y.e], true, 1⟩, some ⟨[.slice (some ⟨3, 0, none⟩) y.n y.n, .int .i64 y.k, .int .i64 y.e2], true, 1⟩, some ⟨List.map (Value.int .u8) y.Z, true, 1⟩])
      (R := fun y : T1g => y.i ≤ N ∧ y.a ≤ 8 * d.size ∧ pack y.bs = y.Z ∧ y.n = y.Z.length ∧ y.k = y.bs.length ∧ y.bs.length ≤ 524288 ∧ B01 y.bs ∧ (y.e = 0 → y.e2 = 0 ∧ y.bs = dbits d 0 y.a))
      (μ := fun y : T1g => N - y.i) ⟨0, 0, 0, [], [], 0, 0, 0⟩ (fitsD [0, 1, 2, 3]) ⟨Nat.zero_le _, Nat.zero_le _, rfl, rfl, rfl, by decide, fun b h => (by cases h), fun _ => ⟨rfl, rfl⟩⟩ ?_
    rintro ⟨i, a, e, bs, Z, n, k, e2⟩ ⟨g1, ha, hZ, hn, hk, hl, hb, hrel⟩
    dsimp only at *
    by_cases hi : i < N
    · obtain ⟨⟨q, w, x, t, u⟩, hq⟩ : ∃ q, l[i]? = some q := ⟨_, List.getElem?_eq_getElem (by omega)⟩
      obtain ⟨r1, r2, r3⟩ := hr _ (List.mem_of_getElem? hq)
      have ht := f2 _ (List.mem_of_getElem? hq)
      dsimp only at r1 r2 r3 ht
      obtain ⟨w', x', t', a', e', hst⟩ : ∃ w' x' t' a' e', rdF d a e q w x t = ((w', x', t'), a', e') := ⟨_, _, _, _, _, rfl⟩
      have hle := rdF_le hst ha
      obtain ⟨k1, k2, k3⟩ := rdF_rng hst ha hd r2 r3 ht
      obtain ⟨bs', e2', hwr⟩ : ∃ bs' e2', wrF bs e2 q w' x' t' = (bs', e2') := ⟨_, _, rfl⟩
      obtain ⟨hl', hb'⟩ := wrF_keep hwr hl hb
      obtain ⟨Z', hZ'⟩ : ∃ Z', pack bs' = Z' := ⟨_, rfl⟩
      obtain ⟨n', hn'⟩ : ∃ n', n' = Z'.length := ⟨_, rfl⟩
      obtain ⟨k', hk'⟩ : ∃ k' : Int, k' = bs'.length := ⟨_, rfl⟩
      have hrel' : e' = 0 → e2' = 0 ∧ bs' = dbits d 0 a' := fun he' => by
        subst he'
        by_cases he : e = 0
        · subst he
          obtain ⟨rfl, rfl⟩ := hrel rfl
          rw [strict hst ha hd] at hwr
          obtain ⟨rfl, rfl⟩ := Prod.mk.inj hwr
          exact ⟨rfl, rfl⟩
        · exact absurd (rdF_err hst he).1.symm he
      have HX := ac_read q w x t w' x' t' e e' a a' d hst ha (by omega) r2
      have HY := ac_write q w' x' t' e2 e2' bs bs' Z Z' n n' k k' hZ hn hk hwr hZ' hn' hk' hl k1 k2 k3
      repeat' first
        | refine st (h := ok_load_rowsE (f := fdC) (cs := [.int .i64 q, .int .i64 w, .int .i64 x, .string t]) i (fun _ => rfl) hq rfl rfl rfl rfl (by omega)) ?_
        | refine st ?_
        | refine stMW [1] HX ?_
        | refine stMW [2, 3] HY ?_
        | refine stm ?_
        | refine run_want rfl rfl ?_
        | refine run_unwant rfl rfl ?_
        | refine run_undef rfl rfl ?_
        | refine run_guard1t rfl rfl (by omega) ?_
        | refine run_guard1f rfl rfl (by omega) ?_
        | refine run_guard0t rfl rfl (by omega) ?_
        | refine run_guard0f rfl rfl (by omega) ?_
        | refine run_guard1 rfl rfl (fun h1 => ?_) (fun h1 => ?_)
        | refine run_guard0 rfl rfl (fun h1 => ?_) (fun h1 => ?_)
        | refine run_guard rfl rfl (fun h1 => ?_) (fun h1 => ?_)
        | refine run_nil ?_
        | refine aw_seq ?_
        | refine aw_region (by kernel_rfl) (Nat.le_of_ble_eq_true rfl) ?_
        | refine aw_block ?_
        | refine aw_cond_t rfl ?_
        | refine aw_cond_f rfl ?_
        | refine aw_cond_tp rfl (by omega) ?_
        | refine aw_cond_fp rfl (by omega) ?_
        | refine aw_cond1 rfl (fun h1 => ?_) (fun h1 => ?_)
        | refine aw_cond rfl (fun h1 => ?_) (fun h1 => ?_)
        | refine aw_skip ?_
        | refine aw_exit ?_
        | refine aw_ret ?_
        | refine pp_ret ?_
        | refine pp_normal ?_
      all_goals first | exact Exists.intro ⟨i + 1, a', e', bs', Z', n', k', e2'⟩ ⟨fitsD [0, 1, 2, 6], ⟨hi, hle, hZ', hn', hk', hl', hb', hrel'⟩, by dsimp only; omega⟩ | (exfalso; omega)
    · obtain ⟨c, hc⟩ : ∃ c, closeR d a e = c := ⟨_, rfl⟩
      have H3 := ac_closeR e c a d hc ha (by omega)
      by_cases hc0 : c = 0
      · subst hc0
        unfold closeR at hc
        by_cases he : e = 0
        · subst he
          obtain ⟨rfl, rfl⟩ := hrel rfl
          rw [if_neg (by simp)] at hc
          have hz : ¬ (8 ≤ 8 * d.size - a ∨ rdN d a (8 * d.size - a) ≠ 0) := fun h => by rw [if_pos h] at hc; omega
          have hz1 : 8 * d.size - a < 8 := by
            have := fun h => hz (.inl h)
            omega
          have hz2 : rdN d a (8 * d.size - a) = 0 := by
            by_cases h : rdN d a (8 * d.size - a) = 0
            · exact h
            · exact absurd (.inr h) hz
          have hpk := pkB_dbits d a (by omega) fun j h1 h2 => by
            by_cases hj : bitD d j = 0
            · exact hj
            · exact absurd hz2 (rdN_one d a (j - a) (by rw [show a + (j - a) = j by omega]; exact hj) _ (by omega))
          have H1 := ac_bytes n k (dbits d 0 a) Z hZ hn
          have e1 : (⟨(Z.map b8).toArray⟩ : ByteArray) = d := by rw [← hZ]; exact hpk
          rw [e1] at H1
          repeat' first
            | refine st (h := ok_str_eqlT rfl rfl) ?_
            | refine st (h := ok_str_neqF rfl rfl) ?_
            | refine st ?_
            | refine stRW [1] H3 ?_
            | refine stRW [2, 3] H1 ?_
            | refine stm ?_
            | refine run_want rfl rfl ?_
            | refine run_unwant rfl rfl ?_
            | refine run_undef rfl rfl ?_
            | refine run_guard1t rfl rfl (by omega) ?_
            | refine run_guard1f rfl rfl (by omega) ?_
            | refine run_guard0t rfl rfl (by omega) ?_
            | refine run_guard0f rfl rfl (by omega) ?_
            | refine run_guard1 rfl rfl (fun h1 => ?_) (fun h1 => ?_)
            | refine run_guard0 rfl rfl (fun h1 => ?_) (fun h1 => ?_)
            | refine run_guard rfl rfl (fun h1 => ?_) (fun h1 => ?_)
            | refine run_nil ?_
            | refine aw_seq ?_
            | refine aw_region (by kernel_rfl) (Nat.le_of_ble_eq_true rfl) ?_
            | refine aw_block ?_
            | refine aw_cond_t rfl ?_
            | refine aw_cond_f rfl ?_
            | refine aw_cond_tp rfl (by omega) ?_
            | refine aw_cond_fp rfl (by omega) ?_
            | refine aw_cond1 rfl (fun h1 => ?_) (fun h1 => ?_)
            | refine aw_cond rfl (fun h1 => ?_) (fun h1 => ?_)
            | refine aw_skip ?_
            | refine aw_exit ?_
            | refine aw_ret ?_
            | refine pp_ret ?_
            | refine pp_normal ?_
          all_goals first | rfl | simp [retOf] | (exfalso; omega)
        · rw [if_pos he] at hc
          exact absurd hc he
      · skip
        repeat' first
          | refine st ?_
          | refine stRW [1] H3 ?_
          | refine stm ?_
          | refine run_want rfl rfl ?_
          | refine run_unwant rfl rfl ?_
          | refine run_undef rfl rfl ?_
          | refine run_guard1t rfl rfl (by omega) ?_
          | refine run_guard1f rfl rfl (by omega) ?_
          | refine run_guard0t rfl rfl (by omega) ?_
          | refine run_guard0f rfl rfl (by omega) ?_
          | refine run_guard1 rfl rfl (fun h1 => ?_) (fun h1 => ?_)
          | refine run_guard0 rfl rfl (fun h1 => ?_) (fun h1 => ?_)
          | refine run_guard rfl rfl (fun h1 => ?_) (fun h1 => ?_)
          | refine run_nil ?_
          | refine aw_seq ?_
          | refine aw_region (by kernel_rfl) (Nat.le_of_ble_eq_true rfl) ?_
          | refine aw_block ?_
          | refine aw_cond_t rfl ?_
          | refine aw_cond_f rfl ?_
          | refine aw_cond_tp rfl (by omega) ?_
          | refine aw_cond_fp rfl (by omega) ?_
          | refine aw_cond1 rfl (fun h1 => ?_) (fun h1 => ?_)
          | refine aw_cond rfl (fun h1 => ?_) (fun h1 => ?_)
          | refine aw_skip ?_
          | refine aw_exit ?_
          | refine aw_ret ?_
          | refine pp_ret ?_
          | refine pp_normal ?_
        all_goals first | rfl | simp [retOf] | (exfalso; omega)
  · by_cases hd : d.size ≤ 300
    · have hf : fewB l = false := by rw [← Bool.not_eq_true]; exact fun h => hf ⟨hd, h⟩
      rw [hf] at hF
      rw [hN] at hF ⊢
      refine acalls_law Try.func4 rfl rfl rfl ?_
      repeat' first
        | refine st ?_
        | refine st_call (ac_awake) ?_
        | refine stRW [0] hF ?_
        | refine stm ?_
        | refine run_want rfl rfl ?_
        | refine run_unwant rfl rfl ?_
        | refine run_undef rfl rfl ?_
        | refine run_guard1t rfl rfl (by omega) ?_
        | refine run_guard1f rfl rfl (by omega) ?_
        | refine run_guard0t rfl rfl (by omega) ?_
        | refine run_guard0f rfl rfl (by omega) ?_
        | refine run_guard1 rfl rfl (fun h1 => ?_) (fun h1 => ?_)
        | refine run_guard0 rfl rfl (fun h1 => ?_) (fun h1 => ?_)
        | refine run_guard rfl rfl (fun h1 => ?_) (fun h1 => ?_)
        | refine run_nil ?_
        | refine aw_seq ?_
        | refine aw_region (by kernel_rfl) (Nat.le_of_ble_eq_true rfl) ?_
        | refine aw_block ?_
        | refine aw_cond_t rfl ?_
        | refine aw_cond_f rfl ?_
        | refine aw_cond_tp rfl (by omega) ?_
        | refine aw_cond_fp rfl (by omega) ?_
        | refine aw_cond1 rfl (fun h1 => ?_) (fun h1 => ?_)
        | refine aw_cond rfl (fun h1 => ?_) (fun h1 => ?_)
        | refine aw_skip ?_
        | refine aw_exit ?_
        | refine aw_ret ?_
        | refine pp_ret ?_
        | refine pp_normal ?_
      all_goals first | rfl | (exfalso; omega)
    · rw [hN]
      refine acalls_law Try.func4 rfl rfl rfl ?_
      repeat' first
        | refine st ?_
        | refine st_call (ac_awake) ?_
        | refine stm ?_
        | refine run_want rfl rfl ?_
        | refine run_unwant rfl rfl ?_
        | refine run_undef rfl rfl ?_
        | refine run_guard1t rfl rfl (by omega) ?_
        | refine run_guard1f rfl rfl (by omega) ?_
        | refine run_guard0t rfl rfl (by omega) ?_
        | refine run_guard0f rfl rfl (by omega) ?_
        | refine run_guard1 rfl rfl (fun h1 => ?_) (fun h1 => ?_)
        | refine run_guard0 rfl rfl (fun h1 => ?_) (fun h1 => ?_)
        | refine run_guard rfl rfl (fun h1 => ?_) (fun h1 => ?_)
        | refine run_nil ?_
        | refine aw_seq ?_
        | refine aw_region (by kernel_rfl) (Nat.le_of_ble_eq_true rfl) ?_
        | refine aw_block ?_
        | refine aw_cond_t rfl ?_
        | refine aw_cond_f rfl ?_
        | refine aw_cond_tp rfl (by omega) ?_
        | refine aw_cond_fp rfl (by omega) ?_
        | refine aw_cond1 rfl (fun h1 => ?_) (fun h1 => ?_)
        | refine aw_cond rfl (fun h1 => ?_) (fun h1 => ?_)
        | refine aw_skip ?_
        | refine aw_exit ?_
        | refine aw_ret ?_
        | refine pp_ret ?_
        | refine pp_normal ?_
      all_goals first | rfl | (exfalso; omega)
end Go.Proofs.Ytmmaolnjjjdecaa
