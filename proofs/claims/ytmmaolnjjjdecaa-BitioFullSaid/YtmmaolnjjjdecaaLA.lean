/- BitioWrites: the law. -/
import Derived.Test.YtmmaolnjjjdecaaE5
import Derived.Test.YtmmaolnjjjdecaaE3
import Derived.Test.YtmmaolnjjjdecaaC10
import Derived.Test.YtmmaolnjjjdecaaV22
set_option linter.unusedVariables false
set_option linter.unusedSimpArgs false
namespace Go.Proofs.Ytmmaolnjjjdecaa
open Go Av
set_option maxRecDepth 20000
theorem fewB_len {l : List Fd} (h : fewB l = true) : l.length ≤ 40 ∧ ∀ f ∈ l, f.2.2.2.1.size ≤ 200 := of_decide_eq_true h
def FdR (f : Fd) : Prop := (-9223372036854775808 ≤ f.1 ∧ f.1 ≤ 9223372036854775807) ∧ (-9223372036854775808 ≤ f.2.1 ∧ f.2.1 ≤ 9223372036854775807) ∧ (-9223372036854775808 ≤ f.2.2.1 ∧ f.2.2.1 ≤ 9223372036854775807)
structure W1g where
  i : Nat
  bs : List Int
  Z : List Int
  n : Nat
  m : Nat
  k : Int
  e : Int
set_option maxHeartbeats 4000000 in
theorem law_writes (l : List Fd) (hr : ∀ f ∈ l, FdR f) : ACalls Try.prog 3 [.slice (some ⟨0, 0, none⟩) l.length l.length] [some ⟨l.flatMap fdC, false, 4⟩] (.bool true) [none] := by
  have hF := ac_few l
  by_cases hf : fewB l = true
  · rw [hf] at hF
    obtain ⟨f1, f2⟩ := fewB_len hf
    obtain ⟨N, hN⟩ : ∃ N, l.length = N := ⟨_, rfl⟩
    rw [hN] at hF f1 ⊢
    refine acalls_law Try.func3 rfl rfl rfl ?_
    repeat' first
      | refine st ?_
      | refine st_call (ac_awake) ?_
      | refine stRW [0] hF ?_
      | refine stMW [] ac_newW ?_
      | refine stMW [] ac_rnewW ?_
      | refine stm ?_
      | refine run_want rfl rfl ?_
      | refine run_unwant rfl rfl ?_
      | refine run_undef rfl rfl ?_
      | refine run_guard1t rfl rfl (by omega) ?_
      | refine run_guard1f rfl rfl (by omega) ?_
      | refine run_guard0t rfl rfl (by omega) ?_
      | refine run_guard0f rfl rfl (by omega) ?_
      | refine run_guard1 rfl rfl (fun h1 => ?_) (fun h1 => ?_)
      | refine run_guard0 rfl rfl (fun h1 => ?_) (fun h1 => ?_)
      | refine run_guard rfl rfl (fun h1 => ?_) (fun h1 => ?_)
      | refine run_nil ?_
      | refine aw_seq ?_
      | refine aw_region (by kernel_rfl) (Nat.le_of_ble_eq_true rfl) ?_
      | refine aw_block ?_
      | refine aw_cond_t rfl ?_
      | refine aw_cond_f rfl ?_
      | refine aw_cond_tp rfl (by omega) ?_
      | refine aw_cond_fp rfl (by omega) ?_
      | refine aw_cond1 rfl (fun h1 => ?_) (fun h1 => ?_)
      | refine aw_cond rfl (fun h1 => ?_) (fun h1 => ?_)
      | refine aw_skip ?_
      | refine aw_exit ?_
      | refine aw_ret ?_
      | refine pp_ret ?_
      | refine pp_normal ?_
    clear hF
    refine aw_loopg
      (S := fun y : W1g => [(3, .pointer (some ⟨1, 0, none⟩)), (4, .pointer (some ⟨3, 0, none⟩)), (20, .slice (some ⟨0, 0, none⟩) N N), (21, .int .i64 N), (22, .int .i64 y.i)])
      (B := fun y : W1g => [some ⟨l.flatMap fdC, false, 4⟩, some ⟨[.slice (some ⟨2, 0, none⟩) y.n y.n, .int .i64 y.k, .int .i64 y.e], true, 1⟩, some ⟨List.map (Value.int .u8) y.Z, true, 1⟩, some ⟨[.slice (some ⟨4, 0, none⟩) y.m y.m, .int .i64 y.e], true, 1⟩, some ⟨List.map (Value.int .u8) y.bs, true, 1⟩])
      (R := fun y : W1g => y.i ≤ N ∧ pack y.bs = y.Z ∧ y.n = y.Z.length ∧ y.k = y.bs.length ∧ y.m = y.bs.length ∧ y.bs.length ≤ 524288 ∧ B01 y.bs)
      (μ := fun y : W1g => N - y.i) ⟨0, [], [], 0, 0, 0, 0⟩ (fitsD [0, 1, 2, 3, 4]) ⟨Nat.zero_le _, rfl, rfl, rfl, rfl, by decide, fun b h => by cases h⟩ ?_
    rintro ⟨i, bs, Z, n, m, k, e⟩ ⟨g1, hZ, hn, hk, hm, hl, hb⟩
    dsimp only at *
    by_cases hi : i < N
    · obtain ⟨⟨q, w, x, t, u⟩, hq⟩ : ∃ q, l[i]? = some q := ⟨_, List.getElem?_eq_getElem (by omega)⟩
      obtain ⟨r1, r2, r3⟩ := hr _ (List.mem_of_getElem? hq)
      have ht := f2 _ (List.mem_of_getElem? hq)
      dsimp only at r1 r2 r3 ht
      obtain ⟨bs', e', hst⟩ : ∃ bs' e', wrF bs e q w x t = (bs', e') := ⟨_, _, rfl⟩
      obtain ⟨hl', hb'⟩ := wrF_keep hst hl hb
      obtain ⟨Z', hZ'⟩ : ∃ Z', pack bs' = Z' := ⟨_, rfl⟩
      obtain ⟨n', hn'⟩ : ∃ n', n' = Z'.length := ⟨_, rfl⟩
      obtain ⟨m', hm'⟩ : ∃ m', m' = bs'.length := ⟨_, rfl⟩
      obtain ⟨k', hk'⟩ : ∃ k' : Int, k' = bs'.length := ⟨_, rfl⟩
      have HX := ac_write q w x t e e' bs bs' Z Z' n n' k k' hZ hn hk hst hZ' hn' hk' hl r2 r3 (by omega)
      have HY := ac_refWrite q w x t e e' bs bs' m m' hm hst hm' hl r2 r3 (by omega)
      have HB := ac_bits n' k' e' Z'
      have HC := ac_rbits m' e' bs'
      by_cases he : e' = 0
      · subst he
        have H1 := ac_bytes n' k' bs' Z' hZ' hn'
        have H2 := ac_rbytes m' bs' Z' hm' hZ' hl' (fun b h => by rcases hb' b h with h | h <;> omega)
        generalize (Z'.map b8).toArray = AR at H1 H2
        repeat' first
          | refine st (h := ok_load_rowsE (f := fdC) (cs := [.int .i64 q, .int .i64 w, .int .i64 x, .string t]) i (fun _ => rfl) hq rfl rfl rfl rfl (by omega)) ?_
          | refine st (h := ok_str_eqlT rfl rfl) ?_
          | refine st (h := ok_str_neqF rfl rfl) ?_
          | refine st ?_
          | refine stMW [1, 2] HX ?_
          | refine stMW [3, 4] HY ?_
          | refine stRW [1, 6] H1 ?_
          | refine stRW [3, 7] H2 ?_
          | refine stRW [1, 6] HB ?_
          | refine stRW [3, 7] HC ?_
          | refine stm ?_
          | refine run_want rfl rfl ?_
          | refine run_unwant rfl rfl ?_
          | refine run_undef rfl rfl ?_
          | refine run_guard1t rfl rfl (by omega) ?_
          | refine run_guard1f rfl rfl (by omega) ?_
          | refine run_guard0t rfl rfl (by omega) ?_
          | refine run_guard0f rfl rfl (by omega) ?_
          | refine run_guard1 rfl rfl (fun h1 => ?_) (fun h1 => ?_)
          | refine run_guard0 rfl rfl (fun h1 => ?_) (fun h1 => ?_)
          | refine run_guard rfl rfl (fun h1 => ?_) (fun h1 => ?_)
          | refine run_nil ?_
          | refine aw_seq ?_
          | refine aw_region (by kernel_rfl) (Nat.le_of_ble_eq_true rfl) ?_
          | refine aw_block ?_
          | refine aw_cond_t rfl ?_
          | refine aw_cond_f rfl ?_
          | refine aw_cond_tp rfl (by omega) ?_
          | refine aw_cond_fp rfl (by omega) ?_
          | refine aw_cond1 rfl (fun h1 => ?_) (fun h1 => ?_)
          | refine aw_cond rfl (fun h1 => ?_) (fun h1 => ?_)
          | refine aw_skip ?_
          | refine aw_exit ?_
          | refine aw_ret ?_
          | refine pp_ret ?_
          | refine pp_normal ?_
        all_goals first | exact Exists.intro ⟨i + 1, bs', Z', n', m', k', 0⟩ ⟨fitsD [0, 1, 6, 3, 7], ⟨hi, hZ', hn', hk', hm', hl', hb'⟩, by dsimp only; omega⟩ | (exfalso; omega)
      · have H1 := ac_bytesE n' k' e' Z' he
        have H2 := ac_rbytesE m' e' bs' he
        repeat' first
          | refine st (h := ok_load_rowsE (f := fdC) (cs := [.int .i64 q, .int .i64 w, .int .i64 x, .string t]) i (fun _ => rfl) hq rfl rfl rfl rfl (by omega)) ?_
          | refine st (h := ok_str_eqlT rfl rfl) ?_
          | refine st (h := ok_str_neqF rfl rfl) ?_
          | refine st ?_
          | refine stMW [1, 2] HX ?_
          | refine stMW [3, 4] HY ?_
          | refine stRW [1, 6] H1 ?_
          | refine stRW [3, 7] H2 ?_
          | refine stRW [1, 6] HB ?_
          | refine stRW [3, 7] HC ?_
          | refine stm ?_
          | refine run_want rfl rfl ?_
          | refine run_unwant rfl rfl ?_
          | refine run_undef rfl rfl ?_
          | refine run_guard1t rfl rfl (by omega) ?_
          | refine run_guard1f rfl rfl (by omega) ?_
          | refine run_guard0t rfl rfl (by omega) ?_
          | refine run_guard0f rfl rfl (by omega) ?_
          | refine run_guard1 rfl rfl (fun h1 => ?_) (fun h1 => ?_)
          | refine run_guard0 rfl rfl (fun h1 => ?_) (fun h1 => ?_)
          | refine run_guard rfl rfl (fun h1 => ?_) (fun h1 => ?_)
          | refine run_nil ?_
          | refine aw_seq ?_
          | refine aw_region (by kernel_rfl) (Nat.le_of_ble_eq_true rfl) ?_
          | refine aw_block ?_
          | refine aw_cond_t rfl ?_
          | refine aw_cond_f rfl ?_
          | refine aw_cond_tp rfl (by omega) ?_
          | refine aw_cond_fp rfl (by omega) ?_
          | refine aw_cond1 rfl (fun h1 => ?_) (fun h1 => ?_)
          | refine aw_cond rfl (fun h1 => ?_) (fun h1 => ?_)
          | refine aw_skip ?_
          | refine aw_exit ?_
          | refine aw_ret ?_
          | refine pp_ret ?_
          | refine pp_normal ?_
        all_goals first | exact Exists.intro ⟨i + 1, bs', Z', n', m', k', e'⟩ ⟨fitsD [0, 1, 6, 3, 7], ⟨hi, hZ', hn', hk', hm', hl', hb'⟩, by dsimp only; omega⟩ | (exfalso; omega)
    · have HB := ac_bits n k e Z
      have HC := ac_rbits m e bs
      obtain rfl : k = m := by omega
      repeat' first
        | refine st ?_
        | refine stRW [1, 2] HB ?_
        | refine stRW [3, 4] HC ?_
        | refine stm ?_
        | refine run_want rfl rfl ?_
        | refine run_unwant rfl rfl ?_
        | refine run_undef rfl rfl ?_
        | refine run_guard1t rfl rfl (by omega) ?_
        | refine run_guard1f rfl rfl (by omega) ?_
        | refine run_guard0t rfl rfl (by omega) ?_
        | refine run_guard0f rfl rfl (by omega) ?_
        | refine run_guard1 rfl rfl (fun h1 => ?_) (fun h1 => ?_)
        | refine run_guard0 rfl rfl (fun h1 => ?_) (fun h1 => ?_)
        | refine run_guard rfl rfl (fun h1 => ?_) (fun h1 => ?_)
        | refine run_nil ?_
        | refine aw_seq ?_
        | refine aw_region (by kernel_rfl) (Nat.le_of_ble_eq_true rfl) ?_
        | refine aw_block ?_
        | refine aw_cond_t rfl ?_
        | refine aw_cond_f rfl ?_
        | refine aw_cond_tp rfl (by omega) ?_
        | refine aw_cond_fp rfl (by omega) ?_
        | refine aw_cond1 rfl (fun h1 => ?_) (fun h1 => ?_)
        | refine aw_cond rfl (fun h1 => ?_) (fun h1 => ?_)
        | refine aw_skip ?_
        | refine aw_exit ?_
        | refine aw_ret ?_
        | refine pp_ret ?_
        | refine pp_normal ?_
      all_goals first | rfl | simp [retOf] | (exfalso; omega)
  · rw [Bool.not_eq_true] at hf
    rw [hf] at hF
    obtain ⟨N, hN⟩ : ∃ N, l.length = N := ⟨_, rfl⟩
    rw [hN] at hF ⊢
    refine acalls_law Try.func3 rfl rfl rfl ?_
    repeat' first
      | refine st ?_
      | refine st_call (ac_awake) ?_
      | refine stRW [0] hF ?_
      | refine stm ?_
      | refine run_want rfl rfl ?_
      | refine run_unwant rfl rfl ?_
      | refine run_undef rfl rfl ?_
      | refine run_guard1t rfl rfl (by omega) ?_
      | refine run_guard1f rfl rfl (by omega) ?_
      | refine run_guard0t rfl rfl (by omega) ?_
      | refine run_guard0f rfl rfl (by omega) ?_
      | refine run_guard1 rfl rfl (fun h1 => ?_) (fun h1 => ?_)
      | refine run_guard0 rfl rfl (fun h1 => ?_) (fun h1 => ?_)
      | refine run_guard rfl rfl (fun h1 => ?_) (fun h1 => ?_)
      | refine run_nil ?_
      | refine aw_seq ?_
      | refine aw_region (by kernel_rfl) (Nat.le_of_ble_eq_true rfl) ?_
      | refine aw_block ?_
      | refine aw_cond_t rfl ?_
      | refine aw_cond_f rfl ?_
      | refine aw_cond_tp rfl (by omega) ?_
      | refine aw_cond_fp rfl (by omega) ?_
      | refine aw_cond1 rfl (fun h1 => ?_) (fun h1 => ?_)
      | refine aw_cond rfl (fun h1 => ?_) (fun h1 => ?_)
      | refine aw_skip ?_
      | refine aw_exit ?_
      | refine aw_ret ?_
      | refine pp_ret ?_
      | refine pp_normal ?_
    all_goals first | rfl | (exfalso; omega)
end Go.Proofs.Ytmmaolnjjjdecaa
