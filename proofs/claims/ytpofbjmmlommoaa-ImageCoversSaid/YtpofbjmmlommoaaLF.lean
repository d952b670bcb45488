/- ImageCovers: the law. -/
import Derived.Test.YtpofbjmmlommoaaL0
set_option linter.unusedVariables false
set_option linter.unusedSimpArgs false
namespace Go.Proofs.Ytpofbjmmlommoaa
open Go Av
set_option maxRecDepth 20000
structure Cv where
  i : Nat
  a : Int
theorem cov_in {l pk x A : Int} {p : Nat} (hpk : 1 ≤ pk) (hx : (l + pk - 1) / pk = x) (hp : (p : Int) < x) (a to : Int) (ha : a = A + min (p * pk) l) (hto : min (A + p * pk + pk) (A + l) = to) :
    A + p * pk = a ∧ a < to ∧ to - a ≤ pk ∧ ((p : Int) + 1 < x → to - a = pk) ∧ to = A + min (((p + 1 : Nat) : Int) * pk) l := by
  have h1 := (parts_lt (sz := l) (i := p) hpk).1 (by rw [hx]; exact hp)
  have h2 := parts_lt (sz := l) (i := (p : Int) + 1) hpk
  rw [hx, Int.add_mul, Int.one_mul] at h2
  have h3 : ((p + 1 : Nat) : Int) * pk = p * pk + pk := by rw [Int.natCast_add, Int.add_mul]; simp
  rw [h3]
  generalize (p : Int) * pk = q at *
  subst ha; subst hto
  refine ⟨by omega, by omega, by omega, fun h => ?_, by omega⟩
  have := h2.1 h
  omega
theorem cov_end {l pk x : Int} {p : Nat} (hpk : 1 ≤ pk) (hx : (l + pk - 1) / pk = x) (hp : ¬ (p : Int) < x) : min ((p : Int) * pk) l = l := by
  have h1 := parts_lt (sz := l) (i := p) hpk
  rw [hx] at h1
  omega
theorem cov_out {sz pg : Int} {n i : Nat} (hpg : 1 ≤ pg) (hn : (n : Int) = (sz + pg - 1) / pg) (hi : i < n) (a : Int) (ha : a = min (i * pg) sz) :
    a = i * pg ∧ i * pg + lenM sz pg i = min (((i + 1 : Nat) : Int) * pg) sz ∧ ((i : Int) < n - 1 → i * pg + lenM sz pg i = ((i : Int) + 1) * pg) := by
  have h1 := (parts_lt (sz := sz) (i := i) hpg).1 (by omega)
  have h2 := parts_lt (sz := sz) (i := (i : Int) + 1) hpg
  rw [← hn, Int.add_mul, Int.one_mul] at h2
  have h3 : ((i + 1 : Nat) : Int) * pg = i * pg + pg := by rw [Int.natCast_add, Int.add_mul]; simp
  rw [h3, Int.add_mul, Int.one_mul]
  unfold lenM
  generalize (i : Int) * pg = q at *
  refine ⟨by omega, by omega, fun h => ?_⟩
  have := h2.1 (by omega)
  omega
theorem cov_all {sz pg : Int} {n : Nat} (hpg : 1 ≤ pg) (hn : (n : Int) = (sz + pg - 1) / pg) : min ((n : Int) * pg) sz = sz := by
  have h1 := parts_lt (sz := sz) (i := n) hpg
  rw [← hn] at h1
  omega
theorem par_bd {l pk x : Int} (hpk : 1 ≤ pk) (hx : (l + pk - 1) / pk = x) (hl : 1 ≤ l) (hl2 : l ≤ 64 * pk) : 1 ≤ x ∧ x ≤ 64 := by
  have h1 := (parts_lt (sz := l) (i := 0) hpk).2 (by omega)
  have h2 := parts_lt (sz := l) (i := 64) hpk
  rw [hx] at h1 h2
  omega
set_option maxHeartbeats 16000000 in
theorem law_covers (v sz pg pk : Int) (L : List ByteArray)  : ACalls Try.prog 5 [.agg #[.int .i64 v, .int .i64 sz, .int .i64 pg, .int .i64 pk, .slice (some ⟨0, 0, none⟩) L.length L.length]] [some ⟨List.map Value.string L, false, 1⟩] (.bool true) [none] := by
  obtain ⟨n, hn⟩ : ∃ n, L.length = n := ⟨_, rfl⟩
  rw [hn]
  obtain ⟨w, hw⟩ : ∃ w, fewM L = w := ⟨_, rfl⟩
  have HF := ac_fewA v sz pg pk L n hn w hw
  cases w
  · refine acalls_law Try.func5 rfl rfl rfl ?_
    repeat' first
      | refine st (h := ok_not_dec2 rfl) ?_
      | refine st ?_
      | refine st_call (ac_awake) ?_
      | refine stRW [0] HF ?_
      | refine sdRW [0] HF ?_
      | refine stm ?_
      | refine run_want rfl rfl ?_
      | refine run_unwant rfl rfl ?_
      | refine run_undef rfl rfl ?_
      | refine run_guard1t rfl rfl (by omega) ?_
      | refine run_guard1f rfl rfl (by omega) ?_
      | refine run_guard0t rfl rfl (by omega) ?_
      | refine run_guard0f rfl rfl (by omega) ?_
      | refine run_guard1 rfl rfl (fun h1 => ?_) (fun h1 => ?_)
      | refine run_guard0 rfl rfl (fun h1 => ?_) (fun h1 => ?_)
      | refine run_guard rfl rfl (fun h1 => ?_) (fun h1 => ?_)
      | refine run_nil ?_
      | refine aw_seq ?_
      | refine aw_region (by kernel_rfl) (Nat.le_of_ble_eq_true rfl) ?_
      | refine aw_block ?_
      | refine aw_cond_t rfl ?_
      | refine aw_cond_f rfl ?_
      | refine aw_cond_tp rfl (by omega) ?_
      | refine aw_cond_fp rfl (by omega) ?_
      | refine aw_cond1 rfl (fun h1 => ?_) (fun h1 => ?_)
      | refine aw_cond rfl (fun h1 => ?_) (fun h1 => ?_)
      | refine aw_skip ?_
      | refine aw_exit ?_
      | refine aw_ret ?_
      | refine pp_ret ?_
      | refine pp_normal ?_
    all_goals first
      | rfl
      | (exfalso; omega)
      | (simp [retOf]; done)
      | (exfalso; simp_all; done)
  · have hfw := fewM_spec hw
    rw [hn] at hfw
    have hb : n ≤ 9000000000000000000 := by omega
    clear hw
    rcases chk_01 v sz pg pk L with hc | hc
    · have HC := ac_mcheck v sz pg pk L n hn hb 0 hc
      obtain ⟨q1, q2, q3, q4, q5⟩ := chk_ok hc
      have hbd := siz_bd q1
      rw [hn] at q4
      have hall := cov_all (by omega) q4
      refine acalls_law Try.func5 rfl rfl rfl ?_
      repeat' first
        | refine st (h := ok_not_dec2 rfl) ?_
        | refine st ?_
        | refine st_call (ac_awake) ?_
        | refine stRW [0] HF ?_
        | refine sdRW [0] HF ?_
        | refine stRW [0] HC ?_
        | refine sdRW [0] HC ?_
        | refine stm ?_
        | refine run_want rfl rfl ?_
        | refine run_unwant rfl rfl ?_
        | refine run_undef rfl rfl ?_
        | refine run_guard1t rfl rfl (by omega) ?_
        | refine run_guard1f rfl rfl (by omega) ?_
        | refine run_guard0t rfl rfl (by omega) ?_
        | refine run_guard0f rfl rfl (by omega) ?_
        | refine run_guard1 rfl rfl (fun h1 => ?_) (fun h1 => ?_)
        | refine run_guard0 rfl rfl (fun h1 => ?_) (fun h1 => ?_)
        | refine run_guard rfl rfl (fun h1 => ?_) (fun h1 => ?_)
        | refine run_nil ?_
        | refine aw_seq ?_
        | refine aw_region (by kernel_rfl) (Nat.le_of_ble_eq_true rfl) ?_
        | refine aw_block ?_
        | refine aw_cond_t rfl ?_
        | refine aw_cond_f rfl ?_
        | refine aw_cond_tp rfl (by omega) ?_
        | refine aw_cond_fp rfl (by omega) ?_
        | refine aw_cond1 rfl (fun h1 => ?_) (fun h1 => ?_)
        | refine aw_cond rfl (fun h1 => ?_) (fun h1 => ?_)
        | refine aw_skip ?_
        | refine aw_exit ?_
        | refine aw_ret ?_
        | refine pp_ret ?_
        | refine pp_normal ?_
      refine aw_loopg
        (S := fun y : Cv => [(1, .pointer (some ⟨1, 0, none⟩)), (3, .int .i64 y.a), (26, .int .i64 n), (27, .int .i64 y.i)])
        (B := fun _ : Cv => [some ⟨List.map Value.string L, false, 1⟩, some ⟨[.int .i64 v, .int .i64 sz, .int .i64 pg, .int .i64 pk, .slice (some ⟨0, 0, none⟩) n n], true, 1⟩])
        (R := fun y : Cv => y.i ≤ n ∧ y.a = min (y.i * pg) sz)
        (μ := fun y : Cv => n - y.i) ⟨0, 0⟩ (fitsD [0, 1]) ⟨Nat.zero_le _, by dsimp only; rw [show ((0 : Nat) : Int) * pg = 0 from Int.zero_mul pg]; omega⟩ ?_
      rintro ⟨i, a⟩ ⟨g1, g2⟩
      dsimp only at g1 g2 ⊢
      by_cases hi : i < n
      · obtain ⟨o1, o2, o3⟩ := cov_out (by omega) q4 hi a g2
        obtain ⟨b1, b2, b3, b4, b5⟩ := page_bd (i := i) hc (by omega) (by omega)
        obtain ⟨l, hl⟩ : ∃ l, lenM sz pg i = l := ⟨_, rfl⟩
        have he : pgE 0 n i = 0 := by unfold pgE; rw [if_neg (by decide), if_neg (by omega)]
        obtain ⟨x, hx⟩ : ∃ x, (l + pk - 1) / pk = x := ⟨_, rfl⟩
        have hx' : pkM sz pg pk i 0 = x := by unfold pkM; rw [if_neg (by decide), hl, hx]
        have H1 := ac_packets v sz pg pk i L n hn hb 0 hc 0 he x hx'
        rw [hl] at o2 o3 b3 b4 b5
        obtain ⟨x1, x2⟩ := par_bd (by omega) hx (by omega) (by omega)
        obtain ⟨M, hM⟩ : ∃ M, ((i : Int) + 1) * pg = M := ⟨_, rfl⟩
        have hMb : 0 ≤ M ∧ M ≤ 1000000 := by
          rw [← hM, Int.add_mul, Int.one_mul]; omega
        rw [hM] at o3
        obtain ⟨A, hA⟩ : ∃ A, (i : Int) * pg = A := ⟨_, rfl⟩
        rw [hA] at o1 o2 o3 b1 b2 b5
        have hg2 := g2
        clear g2
        repeat' first
          | refine st (h := ok_not_dec2 rfl) ?_
          | refine st ?_
          | refine st_call (ac_awake) ?_
          | refine stRW [0] HF ?_
          | refine sdRW [0] HF ?_
          | refine stRW [0] H1 ?_
          | refine sdRW [0] H1 ?_
          | refine stm ?_
          | refine run_want rfl rfl ?_
          | refine run_unwant rfl rfl ?_
          | refine run_undef rfl rfl ?_
          | refine run_guard1t rfl rfl (by omega) ?_
          | refine run_guard1f rfl rfl (by omega) ?_
          | refine run_guard0t rfl rfl (by omega) ?_
          | refine run_guard0f rfl rfl (by omega) ?_
          | refine run_guard1 rfl rfl (fun h1 => ?_) (fun h1 => ?_)
          | refine run_guard0 rfl rfl (fun h1 => ?_) (fun h1 => ?_)
          | refine run_guard rfl rfl (fun h1 => ?_) (fun h1 => ?_)
          | refine run_nil ?_
          | refine aw_seq ?_
          | refine aw_region (by kernel_rfl) (Nat.le_of_ble_eq_true rfl) ?_
          | refine aw_block ?_
          | refine aw_cond_t rfl ?_
          | refine aw_cond_f rfl ?_
          | refine aw_cond_tp rfl (by omega) ?_
          | refine aw_cond_fp rfl (by omega) ?_
          | refine aw_cond1 rfl (fun h1 => ?_) (fun h1 => ?_)
          | refine aw_cond rfl (fun h1 => ?_) (fun h1 => ?_)
          | refine aw_skip ?_
          | refine aw_exit ?_
          | refine aw_ret ?_
          | refine pp_ret ?_
          | refine pp_normal ?_
        all_goals try (exfalso; omega)
        refine aw_loopg
          (S := fun y : Cv => [(1, .pointer (some ⟨1, 0, none⟩)), (3, .int .i64 y.a), (4, .int .i64 i), (5, .int .i64 x), (26, .int .i64 n), (27, .int .i64 i), (46, .int .i64 x), (47, .int .i64 y.i)])
          (B := fun _ : Cv => [some ⟨List.map Value.string L, false, 1⟩, some ⟨[.int .i64 v, .int .i64 sz, .int .i64 pg, .int .i64 pk, .slice (some ⟨0, 0, none⟩) n n], true, 1⟩])
          (R := fun y : Cv => (y.i : Int) ≤ x ∧ y.a = A + min (y.i * pk) l)
          (μ := fun y : Cv => (x - y.i).toNat) ⟨0, a⟩ (fitsD [0, 1]) ⟨by dsimp only; omega, by dsimp only; rw [show ((0 : Nat) : Int) * pk = 0 from Int.zero_mul pk]; omega⟩ ?_
        rintro ⟨p, u⟩ ⟨k1, k2⟩
        dsimp only at k1 k2 ⊢
        by_cases hp : (p : Int) < x
        · obtain ⟨to, hto⟩ : ∃ to, min (A + p * pk + pk) (A + l) = to := ⟨_, rfl⟩
          obtain ⟨i1, i2, i3, i4, i5⟩ := cov_in (by omega) hx hp u to k2 hto
          have H2 := ac_span v sz pg pk i p L n hn hb 0 hc 0 he x hx' 0 (by unfold spE; rw [if_neg (by decide), if_neg (by omega)]) u to (by unfold spF; rw [if_neg (by decide), hA, i1]) (by unfold spT; rw [if_neg (by decide), hA, hl, hto])
          have i6 : to ≤ A + l := by omega
          clear hto k2
          repeat' first
            | refine st (h := ok_not_dec2 rfl) ?_
            | refine st ?_
            | refine stRW [0] H2 ?_
            | refine sdRW [0] H2 ?_
            | refine stm ?_
            | refine run_want rfl rfl ?_
            | refine run_unwant rfl rfl ?_
            | refine run_undef rfl rfl ?_
            | refine run_guard1t rfl rfl (by omega) ?_
            | refine run_guard1f rfl rfl (by omega) ?_
            | refine run_guard0t rfl rfl (by omega) ?_
            | refine run_guard0f rfl rfl (by omega) ?_
            | refine run_guard1 rfl rfl (fun h1 => ?_) (fun h1 => ?_)
            | refine run_guard0 rfl rfl (fun h1 => ?_) (fun h1 => ?_)
            | refine run_guard rfl rfl (fun h1 => ?_) (fun h1 => ?_)
            | refine run_nil ?_
            | refine aw_seq ?_
            | refine aw_region (by kernel_rfl) (Nat.le_of_ble_eq_true rfl) ?_
            | refine aw_block ?_
            | refine aw_cond_t rfl ?_
            | refine aw_cond_f rfl ?_
            | refine aw_cond_tp rfl (by omega) ?_
            | refine aw_cond_fp rfl (by omega) ?_
            | refine aw_cond1 rfl (fun h1 => ?_) (fun h1 => ?_)
            | refine aw_cond rfl (fun h1 => ?_) (fun h1 => ?_)
            | refine aw_skip ?_
            | refine aw_exit ?_
            | refine aw_ret ?_
            | refine pp_ret ?_
            | refine pp_normal ?_
          all_goals first | exact Exists.intro ⟨p + 1, to⟩ ⟨fitsD [0, 1], ⟨by dsimp only; omega, i5⟩, by dsimp only; omega⟩ | (exfalso; omega)
        · have hend := cov_end (by omega) hx hp
          rw [hend] at k2
          repeat' first
            | refine st (h := ok_not_dec2 rfl) ?_
            | refine st (v := .int .i64 M) (h := by (rw [← hM]; apply ok_mul64; rfl; rfl; omega)) ?_
            | refine st ?_
            | refine stm ?_
            | refine run_want rfl rfl ?_
            | refine run_unwant rfl rfl ?_
            | refine run_undef rfl rfl ?_
            | refine run_guard1t rfl rfl (by omega) ?_
            | refine run_guard1f rfl rfl (by omega) ?_
            | refine run_guard0t rfl rfl (by omega) ?_
            | refine run_guard0f rfl rfl (by omega) ?_
            | refine run_guard1 rfl rfl (fun h1 => ?_) (fun h1 => ?_)
            | refine run_guard0 rfl rfl (fun h1 => ?_) (fun h1 => ?_)
            | refine run_guard rfl rfl (fun h1 => ?_) (fun h1 => ?_)
            | refine run_nil ?_
            | refine aw_seq ?_
            | refine aw_region (by kernel_rfl) (Nat.le_of_ble_eq_true rfl) ?_
            | refine aw_block ?_
            | refine aw_cond_t rfl ?_
            | refine aw_cond_f rfl ?_
            | refine aw_cond_tp rfl (by omega) ?_
            | refine aw_cond_fp rfl (by omega) ?_
            | refine aw_cond1 rfl (fun h1 => ?_) (fun h1 => ?_)
            | refine aw_cond rfl (fun h1 => ?_) (fun h1 => ?_)
            | refine aw_skip ?_
            | refine aw_exit ?_
            | refine aw_ret ?_
            | refine pp_ret ?_
            | refine pp_normal ?_
          all_goals first | exact Exists.intro ⟨i + 1, u⟩ ⟨fitsD [0, 1], ⟨by dsimp only; omega, by dsimp only; rw [k2]; exact o2⟩, by dsimp only; omega⟩ | (exfalso; omega)
      · obtain rfl : i = n := by omega
        rw [hall] at g2
        subst g2
        repeat' first
          | refine st (h := ok_not_dec2 rfl) ?_
          | refine st ?_
          | refine st_call (ac_awake) ?_
          | refine stRW [0] HF ?_
          | refine sdRW [0] HF ?_
          | refine stRW [0] HC ?_
          | refine sdRW [0] HC ?_
          | refine stm ?_
          | refine run_want rfl rfl ?_
          | refine run_unwant rfl rfl ?_
          | refine run_undef rfl rfl ?_
          | refine run_guard1t rfl rfl (by omega) ?_
          | refine run_guard1f rfl rfl (by omega) ?_
          | refine run_guard0t rfl rfl (by omega) ?_
          | refine run_guard0f rfl rfl (by omega) ?_
          | refine run_guard1 rfl rfl (fun h1 => ?_) (fun h1 => ?_)
          | refine run_guard0 rfl rfl (fun h1 => ?_) (fun h1 => ?_)
          | refine run_guard rfl rfl (fun h1 => ?_) (fun h1 => ?_)
          | refine run_nil ?_
          | refine aw_seq ?_
          | refine aw_region (by kernel_rfl) (Nat.le_of_ble_eq_true rfl) ?_
          | refine aw_block ?_
          | refine aw_cond_t rfl ?_
          | refine aw_cond_f rfl ?_
          | refine aw_cond_tp rfl (by omega) ?_
          | refine aw_cond_fp rfl (by omega) ?_
          | refine aw_cond1 rfl (fun h1 => ?_) (fun h1 => ?_)
          | refine aw_cond rfl (fun h1 => ?_) (fun h1 => ?_)
          | refine aw_skip ?_
          | refine aw_exit ?_
          | refine aw_ret ?_
          | refine pp_ret ?_
          | refine pp_normal ?_
        all_goals first
          | rfl
          | (exfalso; omega)
          | (simp [retOf]; done)
          | (exfalso; simp_all; done)
    · have HC := ac_mcheck v sz pg pk L n hn hb 1 hc
      clear hc
      refine acalls_law Try.func5 rfl rfl rfl ?_
      repeat' first
        | refine st (h := ok_not_dec2 rfl) ?_
        | refine st ?_
        | refine st_call (ac_awake) ?_
        | refine stRW [0] HF ?_
        | refine sdRW [0] HF ?_
        | refine stRW [0] HC ?_
        | refine sdRW [0] HC ?_
        | refine stm ?_
        | refine run_want rfl rfl ?_
        | refine run_unwant rfl rfl ?_
        | refine run_undef rfl rfl ?_
        | refine run_guard1t rfl rfl (by omega) ?_
        | refine run_guard1f rfl rfl (by omega) ?_
        | refine run_guard0t rfl rfl (by omega) ?_
        | refine run_guard0f rfl rfl (by omega) ?_
        | refine run_guard1 rfl rfl (fun h1 => ?_) (fun h1 => ?_)
        | refine run_guard0 rfl rfl (fun h1 => ?_) (fun h1 => ?_)
        | refine run_guard rfl rfl (fun h1 => ?_) (fun h1 => ?_)
        | refine run_nil ?_
        | refine aw_seq ?_
        | refine aw_region (by kernel_rfl) (Nat.le_of_ble_eq_true rfl) ?_
        | refine aw_block ?_
        | refine aw_cond_t rfl ?_
        | refine aw_cond_f rfl ?_
        | refine aw_cond_tp rfl (by omega) ?_
        | refine aw_cond_fp rfl (by omega) ?_
        | refine aw_cond1 rfl (fun h1 => ?_) (fun h1 => ?_)
        | refine aw_cond rfl (fun h1 => ?_) (fun h1 => ?_)
        | refine aw_skip ?_
        | refine aw_exit ?_
        | refine aw_ret ?_
        | refine pp_ret ?_
        | refine pp_normal ?_
      all_goals first
        | rfl
        | (exfalso; omega)
        | (simp [retOf]; done)
        | (exfalso; simp_all; done)
end Go.Proofs.Ytpofbjmmlommoaa
