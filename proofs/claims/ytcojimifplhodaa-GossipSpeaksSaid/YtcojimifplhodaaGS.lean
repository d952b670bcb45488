/- GossipSpeaks: the walk. -/
import Derived.Test.YtcojimifplhodaaL
namespace Go.Proofs.Ytcojimifplhodaa
open Go Av
set_option maxRecDepth 20000
structure Sg1 where
  k : Int
  m : Int
  a : Int
  i : Int
  b : Int
  p : Int
  h : Int
structure Sg2 where
  j : Int
  t : Int
  i : Int
  b : Int
  p : Int
  h : Int
  q : Int
theorem stE_0 {l d e s : Int} (hg : ¬ ¬ gE l d e = 0) (h1 : ¬ s < 0) (h2 : ¬ 1048576 < s) : stE l d e s = 0 := by
  have := gE_gok hg
  simp only [stE, this, if_true]
  rw [if_pos (by omega)]
theorem speaks_step' {l d e n a k m i b p h x : Int} (hg : gok l d e = true) (hk : kn n l (d + 1).toNat = true) (ha : 0 ≤ a) (han : a + n ≤ 1073741824) (hJ : Jn l d e n a k m i b p h) (hkn : k < n) (hx : 0 ≤ x ∧ x ≤ 4294967295) :
    ∃ (i1 b1 p1 h1 : Int) (q1 : Bool), ACalls Try.prog 12 [.agg #[.int .i64 l, .int .i64 d, .int .i64 e], .agg #[.int .i64 i, .int .i64 b, .int .i64 p, .int .i64 h], .int .i64 (a + k), .int .u32 x] [] (.tuple #[.agg #[.int .i64 i1, .int .i64 b1, .int .i64 p1, .int .i64 h1], .bool q1, .int .i64 0]) [] ∧
      i1 = n ∧ Jn l d e n a (k + 1) (m + if q1 = true then 1 else 0) i1 b1 p1 h1 := by
  obtain ⟨i1, b1, p1, h1, q1, H, h2⟩ := speaks_step hg hk ha han hJ hkn hx.1 hx.2
  exact ⟨i1, b1, p1, h1, q1, acalls_of rfl rfl fun w => (H.out w).mono fun _ _ h => h, h2⟩
theorem Jn_m {l d e n a k m i b p h : Int} (hJ : Jn l d e n a k m i b p h) : 0 ≤ m ∧ m ≤ 1 := by
  rcases hJ with ⟨_, h, _⟩ | ⟨_, _, _, _, _, _, h⟩ <;> omega
set_option maxHeartbeats 4000000 in
theorem speaks (l d e s : Int) (Z : List Int) (n : Nat) (hn : Z.length = n) (hZ : ∀ j, 0 ≤ Z.getD j 0 ∧ Z.getD j 0 ≤ 4294967295) : ACalls Try.prog 5 [.agg #[.int .i64 l, .int .i64 d, .int .i64 e], .int .i64 s, .slice (some ⟨0, 0, none⟩) n n] [some ⟨Z.map (Value.int .u32), false, 1⟩] (.bool true) [none] := by
  have H1 := fun l d e s j => aw_start l d e s _ (hZ j)
  refine acalls_law Try.func5 rfl rfl rfl ?_
  repeat' first
    | refine st ?_
    | refine st_call (aw_awake) ?_
    | refine st_call (aw_check _ _ _) ?_
    | refine st_call (aw_great _ _ _ (by assumption)) ?_
    | refine st_call (H1 _ _ _ _ _) ?_
    | refine stm ?_
    | refine run_want rfl rfl ?_
    | refine run_unwant rfl rfl ?_
    | refine run_guard1t rfl rfl (by omega) ?_
    | refine run_guard1f rfl rfl (by omega) ?_
    | refine run_guard0t rfl rfl (by omega) ?_
    | refine run_guard0f rfl rfl (by omega) ?_
    | refine run_guard1 rfl rfl (fun h1 => ?_) (fun h1 => ?_)
    | refine run_guard0 rfl rfl (fun h1 => ?_) (fun h1 => ?_)
    | refine run_guard rfl rfl (fun h1 => ?_) (fun h1 => ?_)
    | refine run_nil ?_
    | refine sd ?_
    | refine sdl ?_
    | refine sd_call (aw_awake) ?_
    | refine sd_call (aw_check _ _ _) ?_
    | refine sd_call (aw_great _ _ _ (by assumption)) ?_
    | refine sd_call (H1 _ _ _ _ _) ?_
    | refine sdm ?_
    | refine sdb ?_
    | refine rund_want rfl rfl ?_
    | refine rund_unwant rfl rfl ?_
    | refine rund_guard1 rfl rfl (fun h1 => ?_) (fun h1 => ?_)
    | refine rund_guard0 rfl rfl (fun h1 => ?_) (fun h1 => ?_)
    | refine rund_guard rfl rfl (fun h1 => ?_) (fun h1 => ?_)
    | refine rund_nil ?_
    | refine aw_seq ?_
    | refine aw_region (by kernel_rfl) (Nat.le_of_ble_eq_true rfl) ?_
    | refine aw_region_d (id := 3) [0, 0, 0, 4, 12, 31, 63, 127, 127, 0, 767, 2047] 10 (by kernel_rfl) (by kernel_rfl) (by kernel_rfl) (Nat.le_of_ble_eq_true rfl) ?_
    | refine aw_region_d (id := 14) [0, 0, 0, 0, 0, 24, 56, 127, 255, 511, 511, 511, 1023, 6143, 16383] 12 (by kernel_rfl) (by kernel_rfl) (by kernel_rfl) (Nat.le_of_ble_eq_true rfl) ?_
    | refine aw_block ?_
    | refine aw_cond_t rfl ?_
    | refine aw_cond_f rfl ?_
    | refine aw_cond_tp rfl (by omega) ?_
    | refine aw_cond_fp rfl (by omega) ?_
    | refine aw_cond1 rfl (fun h1 => ?_) (fun h1 => ?_)
    | refine aw_cond rfl (fun h1 => ?_) (fun h1 => ?_)
    | refine aw_skip ?_
    | refine aw_exit ?_
    | refine aw_ret ?_
    | refine pp_ret ?_
    | refine pp_normal ?_

  all_goals try rfl
  · exact absurd (stE_0 (by assumption) (by assumption) (by assumption)) (by assumption)
  have hE : stE l d e s = 0 := stE_0 (by assumption) (by assumption) (by assumption)
  have hg : gok l d e = true := gE_gok (by assumption)
  obtain ⟨l1, l2, d1, d2, e1, e2⟩ := gok_t hg
  have htb := top_bd hg
  have ht : top l d ≤ 600 := by omega
  have hst : ∀ x, stR l d e s x = bgn l s x := fun x => by simp only [stR, hE, if_true]
  have hgr : ¬ ¬ gE l d e = 0 := by assumption
  have hJ0 : ∀ x : Int, Jn l d e l s 0 0 (stR l d e s x).i (stR l d e s x).b (stR l d e s x).p (stR l d e s x).h := fun x => by
    have hm := md_bd l x l1 (by omega)
    rw [hst]
    simp only [bgn]
    exact .inl ⟨rfl, rfl, .inl ⟨rfl, rfl, by omega, by omega, rfl⟩⟩
  have hk0 : kn l l (d + 1).toNat = true := (kn_iff _ _ _).2 ⟨0, by omega, by simp⟩
  clear H1
  refine aw_loopg
    (S := fun x : Sg1 => [(2, .slice (some ⟨0, 0, none⟩) n n), (3, .pointer (some ⟨1, 0, none⟩)), (7, .pointer (some ⟨2, 0, none⟩)), (9, .int .i64 x.m), (10, .int .i64 x.a), (60, .int .i64 n), (61, .int .i64 x.k)])
    (B := fun x : Sg1 => [some ⟨Z.map (Value.int .u32), false, 1⟩, some ⟨[.int .i64 l, .int .i64 d, .int .i64 e], true, 1⟩, some ⟨[.int .i64 x.i, .int .i64 x.b, .int .i64 x.p, .int .i64 x.h], true, 1⟩])
    (R := fun x : Sg1 => 0 ≤ x.k ∧ x.k ≤ n ∧ kn x.m l (d + 1).toNat = true ∧ x.m ≤ top l d ∧ s ≤ x.a ∧ x.a ≤ s + 600 * x.k ∧ Jn l d e x.m x.a 0 0 x.i x.b x.p x.h)
    (μ := fun x : Sg1 => (n - x.k).toNat) ⟨_, _, _, _, _, _, _⟩ (fits [0, 1, 2]) ⟨by dsimp only; omega, by dsimp only; omega, hk0, by dsimp only; omega, by dsimp only; omega, by dsimp only; omega, hJ0 _⟩ ?_
  rintro ⟨k, m, a, i, b, p, h⟩ ⟨hk1, hk2, hkn, hmt, ha1, ha2, hJ⟩
  dsimp only at *
  obtain ⟨m1, m2⟩ := kn_bd hkn (by omega) l1 l2
  repeat' first
    | refine st ?_
    | refine st_call (aw_awake) ?_
    | refine stm ?_
    | refine run_want rfl rfl ?_
    | refine run_unwant rfl rfl ?_
    | refine run_guard1t rfl rfl (by omega) ?_
    | refine run_guard1f rfl rfl (by omega) ?_
    | refine run_guard0t rfl rfl (by omega) ?_
    | refine run_guard0f rfl rfl (by omega) ?_
    | refine run_guard1 rfl rfl (fun h1 => ?_) (fun h1 => ?_)
    | refine run_guard0 rfl rfl (fun h1 => ?_) (fun h1 => ?_)
    | refine run_guard rfl rfl (fun h1 => ?_) (fun h1 => ?_)
    | refine run_nil ?_
    | refine sd ?_
    | refine sdl ?_
    | refine sd_call (aw_awake) ?_
    | refine sdm ?_
    | refine sdb ?_
    | refine rund_want rfl rfl ?_
    | refine rund_unwant rfl rfl ?_
    | refine rund_guard1 rfl rfl (fun h1 => ?_) (fun h1 => ?_)
    | refine rund_guard0 rfl rfl (fun h1 => ?_) (fun h1 => ?_)
    | refine rund_guard rfl rfl (fun h1 => ?_) (fun h1 => ?_)
    | refine rund_nil ?_
    | refine aw_seq ?_
    | refine aw_region (by kernel_rfl) (Nat.le_of_ble_eq_true rfl) ?_
    | refine aw_region_d (id := 3) [0, 0, 0, 4, 12, 31, 63, 127, 127, 0, 767, 2047] 10 (by kernel_rfl) (by kernel_rfl) (by kernel_rfl) (Nat.le_of_ble_eq_true rfl) ?_
    | refine aw_region_d (id := 14) [0, 0, 0, 0, 0, 24, 56, 127, 255, 511, 511, 511, 1023, 6143, 16383] 12 (by kernel_rfl) (by kernel_rfl) (by kernel_rfl) (Nat.le_of_ble_eq_true rfl) ?_
    | refine aw_block ?_
    | refine aw_cond_t rfl ?_
    | refine aw_cond_f rfl ?_
    | refine aw_cond_tp rfl (by omega) ?_
    | refine aw_cond_fp rfl (by omega) ?_
    | refine aw_cond1 rfl (fun h1 => ?_) (fun h1 => ?_)
    | refine aw_cond rfl (fun h1 => ?_) (fun h1 => ?_)
    | refine aw_skip ?_
    | refine aw_exit ?_
    | refine aw_ret ?_
    | refine pp_ret ?_
    | refine pp_normal ?_

  case' _ => skip
  all_goals try rfl
  refine aw_loopg
    (S := fun y : Sg2 => [(2, .slice (some ⟨0, 0, none⟩) n n), (3, .pointer (some ⟨1, 0, none⟩)), (7, .pointer (some ⟨2, 0, none⟩)), (9, .int .i64 m), (10, .int .i64 y.t), (11, .int .i64 k), (12, .int .i64 y.q), (60, .int .i64 n), (61, .int .i64 k), (64, .int .i64 m), (65, .int .i64 y.j)])
    (B := fun y : Sg2 => [some ⟨Z.map (Value.int .u32), false, 1⟩, some ⟨[.int .i64 l, .int .i64 d, .int .i64 e], true, 1⟩, some ⟨[.int .i64 y.i, .int .i64 y.b, .int .i64 y.p, .int .i64 y.h], true, 1⟩])
    (R := fun y : Sg2 => 0 ≤ y.j ∧ y.j ≤ m ∧ y.t = a + y.j ∧ Jn l d e m a y.j y.q y.i y.b y.p y.h)
    (μ := fun y : Sg2 => (m - y.j).toNat) ⟨0, a, i, b, p, h, 0⟩ (fits [0, 1, 2]) ⟨by dsimp only; omega, by dsimp only; omega, by dsimp only; omega, hJ⟩ ?_
  rintro ⟨j, t, i, b, p, h, q⟩ ⟨hj1, hj2, htj, hJ2⟩
  dsimp only at *
  subst htj
  have hq := Jn_m hJ2
  by_cases hjm : j < m
  · obtain ⟨i1, b1, p1, h1, q1, H2, hi1, hJ3⟩ := speaks_step' hg hkn (by omega) (by omega) hJ2 hjm (hZ k.toNat)
    cases q1
    all_goals
      repeat' first
        | refine st ?_
        | refine st_call (H2) ?_
        | refine stm ?_
        | refine run_want rfl rfl ?_
        | refine run_unwant rfl rfl ?_
        | refine run_guard1t rfl rfl (by omega) ?_
        | refine run_guard1f rfl rfl (by omega) ?_
        | refine run_guard0t rfl rfl (by omega) ?_
        | refine run_guard0f rfl rfl (by omega) ?_
        | refine run_guard1 rfl rfl (fun h1 => ?_) (fun h1 => ?_)
        | refine run_guard0 rfl rfl (fun h1 => ?_) (fun h1 => ?_)
        | refine run_guard rfl rfl (fun h1 => ?_) (fun h1 => ?_)
        | refine run_nil ?_
        | refine sd ?_
        | refine sdl ?_
        | refine sd_call (H2) ?_
        | refine sdm ?_
        | refine sdb ?_
        | refine rund_want rfl rfl ?_
        | refine rund_unwant rfl rfl ?_
        | refine rund_guard1 rfl rfl (fun h1 => ?_) (fun h1 => ?_)
        | refine rund_guard0 rfl rfl (fun h1 => ?_) (fun h1 => ?_)
        | refine rund_guard rfl rfl (fun h1 => ?_) (fun h1 => ?_)
        | refine rund_nil ?_
        | refine aw_seq ?_
        | refine aw_region (by kernel_rfl) (Nat.le_of_ble_eq_true rfl) ?_
        | refine aw_region_d (id := 3) [0, 0, 0, 4, 12, 31, 63, 127, 127, 0, 767, 2047] 10 (by kernel_rfl) (by kernel_rfl) (by kernel_rfl) (Nat.le_of_ble_eq_true rfl) ?_
        | refine aw_region_d (id := 14) [0, 0, 0, 0, 0, 24, 56, 127, 255, 511, 511, 511, 1023, 6143, 16383] 12 (by kernel_rfl) (by kernel_rfl) (by kernel_rfl) (Nat.le_of_ble_eq_true rfl) ?_
        | refine aw_block ?_
        | refine aw_cond_t rfl ?_
        | refine aw_cond_f rfl ?_
        | refine aw_cond_tp rfl (by omega) ?_
        | refine aw_cond_fp rfl (by omega) ?_
        | refine aw_cond1 rfl (fun h1 => ?_) (fun h1 => ?_)
        | refine aw_cond rfl (fun h1 => ?_) (fun h1 => ?_)
        | refine aw_skip ?_
        | refine aw_exit ?_
        | refine aw_ret ?_
        | refine pp_ret ?_
        | refine pp_normal ?_

    · exact then_normal ⟨⟨j + 1, _, _, _, _, _, _⟩, fits [0, 1, 2], ⟨by dsimp only; omega, by dsimp only; omega, by dsimp only; omega, by simpa using hJ3⟩, by dsimp only; omega⟩
    · exact then_normal ⟨⟨j + 1, _, _, _, _, _, _⟩, fits [0, 1, 2], ⟨by dsimp only; omega, by dsimp only; omega, by dsimp only; omega, by simpa using hJ3⟩, by dsimp only; omega⟩
  · obtain rfl : j = m := by omega
    obtain ⟨rfl, hk2, hJ3⟩ := speaks_end hg hkn (by omega) (by omega) hJ2
    repeat' first
      | refine st ?_
      | refine st_call (aw_great _ _ _ hgr) ?_
      | refine stm ?_
      | refine run_want rfl rfl ?_
      | refine run_unwant rfl rfl ?_
      | refine run_guard1t rfl rfl (by omega) ?_
      | refine run_guard1f rfl rfl (by omega) ?_
      | refine run_guard0t rfl rfl (by omega) ?_
      | refine run_guard0f rfl rfl (by omega) ?_
      | refine run_guard1 rfl rfl (fun h1 => ?_) (fun h1 => ?_)
      | refine run_guard0 rfl rfl (fun h1 => ?_) (fun h1 => ?_)
      | refine run_guard rfl rfl (fun h1 => ?_) (fun h1 => ?_)
      | refine run_nil ?_
      | refine sd ?_
      | refine sdl ?_
      | refine sd_call (aw_great _ _ _ hgr) ?_
      | refine sdm ?_
      | refine sdb ?_
      | refine rund_want rfl rfl ?_
      | refine rund_unwant rfl rfl ?_
      | refine rund_guard1 rfl rfl (fun h1 => ?_) (fun h1 => ?_)
      | refine rund_guard0 rfl rfl (fun h1 => ?_) (fun h1 => ?_)
      | refine rund_guard rfl rfl (fun h1 => ?_) (fun h1 => ?_)
      | refine rund_nil ?_
      | refine aw_seq ?_
      | refine aw_region (by kernel_rfl) (Nat.le_of_ble_eq_true rfl) ?_
      | refine aw_region_d (id := 3) [0, 0, 0, 4, 12, 31, 63, 127, 127, 0, 767, 2047] 10 (by kernel_rfl) (by kernel_rfl) (by kernel_rfl) (Nat.le_of_ble_eq_true rfl) ?_
      | refine aw_region_d (id := 14) [0, 0, 0, 0, 0, 24, 56, 127, 255, 511, 511, 511, 1023, 6143, 16383] 12 (by kernel_rfl) (by kernel_rfl) (by kernel_rfl) (Nat.le_of_ble_eq_true rfl) ?_
      | refine aw_block ?_
      | refine aw_cond_t rfl ?_
      | refine aw_cond_f rfl ?_
      | refine aw_cond_tp rfl (by omega) ?_
      | refine aw_cond_fp rfl (by omega) ?_
      | refine aw_cond1 rfl (fun h1 => ?_) (fun h1 => ?_)
      | refine aw_cond rfl (fun h1 => ?_) (fun h1 => ?_)
      | refine aw_skip ?_
      | refine aw_exit ?_
      | refine aw_ret ?_
      | refine pp_ret ?_
      | refine pp_normal ?_

    have hmin : (if top l d < 2 * j then top l d else 2 * j) = min (2 * j) (top l d) := by split <;> omega
    rw [hmin] at hk2 hJ3
    exact then_normal ⟨⟨k + 1, _, _, _, _, _, _⟩, fits [0, 1, 2], ⟨by dsimp only; omega, by dsimp only; omega, hk2, by dsimp only; omega, by dsimp only; omega, by dsimp only; omega, hJ3⟩, by dsimp only; omega⟩
end Go.Proofs.Ytcojimifplhodaa
