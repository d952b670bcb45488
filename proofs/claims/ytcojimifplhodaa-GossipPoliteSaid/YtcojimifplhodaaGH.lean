/- GossipPolite: the law. -/
import Derived.Test.YtcojimifplhodaaGA
import Derived.Test.YtcojimifplhodaaVJ
set_option linter.unusedVariables false
set_option linter.unusedSimpArgs false
namespace Go.Proofs.Ytcojimifplhodaa
open Go Av
set_option maxRecDepth 20000
set_option maxHeartbeats 32000000 in
theorem law_polite (l d e : Int) (X : List Int) (hX : ∀ x ∈ X, 0 ≤ x ∧ x ≤ 4294967295) : ACalls Try.prog 7 [.agg #[.int .i64 l, .int .i64 d, .int .i64 e], .slice (some ⟨0, 0, none⟩) X.length X.length] [some ⟨List.map (Value.int .u32) X, false, 1⟩] (.bool true) [none] := by
  obtain ⟨n, hn⟩ : ∃ n, X.length = n := ⟨_, rfl⟩
  rw [hn]
  obtain ⟨g0, hg0⟩ : ∃ x, gE l d e = x := ⟨_, rfl⟩
  have HC := ac_gcheck l d e g0 hg0
  by_cases hbig : n ≤ 8 ∧ g0 = 0 ∧ l ≤ 200
  · have hg : gok l d e = true := by
      rw [hbig.2.1] at hg0
      cases hg : gok l d e with
      | true => rfl
      | false => simp [gE, hg] at hg0
    obtain ⟨l1, l2, d1, d2, e1, e2⟩ := gok_t hg
    clear hg0
    refine acalls_of_aw Try.func7 rfl rfl ?_
    refine aw_ghost 4 rfl ?_
    refine aw_ghost 1 rfl ?_
    repeat' first
      | refine st (h := ok_not_dec2 rfl) ?_
      | refine sd (h := ok_not_dec2 rfl) ?_
      | refine st ?_
      | refine st_call (HC) ?_
      | refine st_call (ac_awake47) ?_
      | refine sd_call (HC) ?_
      | refine sd_call (ac_awake47) ?_
      | refine stm ?_
      | refine run_want rfl rfl ?_
      | refine run_unwant rfl rfl ?_
      | refine run_undef rfl rfl ?_
      | refine run_guard1t rfl rfl (by omega) ?_
      | refine run_guard1f rfl rfl (by omega) ?_
      | refine run_guard0t rfl rfl (by omega) ?_
      | refine run_guard0f rfl rfl (by omega) ?_
      | refine run_guard1 rfl rfl (fun h1 => ?_) (fun h1 => ?_)
      | refine run_guard0 rfl rfl (fun h1 => ?_) (fun h1 => ?_)
      | refine run_guard rfl rfl (fun h1 => ?_) (fun h1 => ?_)
      | refine run_nil ?_
      | refine sd ?_
      | refine sdl ?_
      | refine sdm (n := 1) ?_
      | refine sdm ?_
      | refine sdb ?_
      | refine rund_want rfl rfl ?_
      | refine rund_unwant rfl rfl ?_
      | refine rund_undef rfl rfl ?_
      | refine rund_guard1 rfl rfl (fun h1 => ?_) (fun h1 => ?_)
      | refine rund_guard0 rfl rfl (fun h1 => ?_) (fun h1 => ?_)
      | refine rund_guard rfl rfl (fun h1 => ?_) (fun h1 => ?_)
      | refine rund_nil ?_
      | refine aw_seq ?_
      | refine aw_region (by kernel_rfl) (Nat.le_of_ble_eq_true rfl) ?_
      | refine aw_region_dC (id := 13) [0, 0, 2, 7, 0, 0, 32, 96, 255, 511, 1023] 3 (by (repeat constructor)) (by kernel_rfl) (by kernel_rfl) (by kernel_rfl) (by rfl) ?_
      | refine aw_region_dC (id := 22) [0, 0, 0, 6, 14, 0, 63, 127, 255, 255, 255, 0, 2559, 7167, 16383] 12 (by (repeat constructor)) (by kernel_rfl) (by kernel_rfl) (by kernel_rfl) (by rfl) ?_
      | refine aw_region_dC (id := 32) [0, 0, 0, 0, 0, 24, 56, 0, 252, 508, 1020, 1020, 2047, 6143, 16383] 13 (by (repeat constructor)) (by kernel_rfl) (by kernel_rfl) (by kernel_rfl) (by rfl) ?_
      | refine aw_block ?_
      | refine aw_cond_t rfl ?_
      | refine aw_cond_f rfl ?_
      | refine aw_cond_tp rfl (by omega) ?_
      | refine aw_cond_fp rfl (by omega) ?_
      | refine aw_cond1 rfl (fun h1 => ?_) (fun h1 => ?_)
      | refine aw_cond rfl (fun h1 => ?_) (fun h1 => ?_)
      | refine aw_skip ?_
      | refine aw_exit ?_
      | refine aw_ret ?_
      | refine pp_ret ?_
      | refine pp_normal ?_
    clear HC
    refine aw_loopg
      (S := fun y : Pg1 => [(2, .pointer (some ⟨3, 0, none⟩)), (5, .slice (some ⟨1, 0, none⟩) y.i y.i), (6, .slice (some ⟨2, 0, none⟩) y.i y.i), (36, .slice (some ⟨0, 0, none⟩) n n), (37, .int .i64 n), (38, .int .i64 y.i)])
      (B := fun y : Pg1 => [some ⟨List.map (Value.int .u32) X, false, 1⟩, some ⟨y.Q.flatMap (rmF l), true, 4⟩, some ⟨List.map (Value.int .i64) (y.Q.map Prod.fst), true, 1⟩, some ⟨[.int .i64 l, .int .i64 d, .int .i64 e], true, 1⟩])
      (R := fun y : Pg1 => y.i ≤ n ∧ y.Q.length = y.i ∧ Init l y.Q)
      (μ := fun y : Pg1 => n - y.i) ⟨0, []⟩ (fitsD [0, 1, 2, 3]) ⟨Nat.zero_le _, rfl, Init.nil l⟩ ?_
    rintro ⟨i, Q⟩ ⟨g1, g2, g3⟩
    dsimp only at *
    by_cases hi : i < n
    · obtain ⟨x, hx⟩ : ∃ x, X[i]? = some x := ⟨_, List.getElem?_eq_getElem (by omega)⟩
      have hxr := hX x (List.mem_of_getElem? hx)
      have H0 := ac_start0 l d e 0 x hg (by decide) hxr
      obtain ⟨p, hp⟩ : ∃ p, 0 + l / 2 + x % (l - l / 2) = p := ⟨_, rfl⟩
      have hmd := md_bd l x l1 (by omega)
      have hpb : l / 2 ≤ p ∧ p < l := by omega
      rw [hp] at H0
      clear hp hmd
      obtain ⟨z, hz⟩ : ∃ z, hasI (Q.map Prod.fst) p = z := ⟨_, rfl⟩
      have HH := ac_containsI (Q.map Prod.fst) (Q.map Prod.fst) i (by rw [List.length_map]; omega) (List.take_of_length_le (by rw [List.length_map]; omega)) (by omega) p z hz
      cases z
      · have hI := g3.snoc hpb hz
        repeat' first
          | refine st (h := ok_not_dec2 rfl) ?_
          | refine sd (h := ok_not_dec2 rfl) ?_
          | refine st (h := ok_load_mapE (f := Value.int .u32) i hx rfl rfl rfl (by omega)) ?_
          | refine Own.sow (n := 1) (h := ok_append (cs := (Q ++ [(p, 0)]).flatMap (rmF l)) (olds := Q.flatMap (rmF l)) rfl rfl rfl rfl rfl rfl (Src.slc rfl Ty.eq rfl (Nat.le_of_ble_eq_true rfl) rfl rfl rfl) (by rw [rmF_len, g2]; omega) (take_full2 (by rw [rmF_len, g2]; omega)) (by exact rmF_snoc (l := l) (L := Q) (c := (p, 0))) (by omega) (by (repeat constructor))) ?_
          | refine Own.sob (n := 1) (h := ok_append (cs := List.map (Value.int .i64) ((Q ++ [(p, 0)]).map Prod.fst)) (olds := List.map (Value.int .i64) (Q.map Prod.fst)) rfl rfl rfl rfl rfl rfl (Src.slc rfl Ty.eq rfl (Nat.le_of_ble_eq_true rfl) rfl rfl rfl) (by rw [List.length_map, List.length_map, g2]; omega) (take_full2 (by rw [List.length_map, List.length_map, g2]; omega)) (by exact fst_snoc (Q := Q) (p := p)) (by omega) (by (repeat constructor))) ?_
          | refine st ?_
          | refine st_call (H0) ?_
          | refine sd_call (H0) ?_
          | refine stRW [2] HH ?_
          | refine sdRW [2] HH ?_
          | refine stm ?_
          | refine run_want rfl rfl ?_
          | refine run_unwant rfl rfl ?_
          | refine run_undef rfl rfl ?_
          | refine run_guard1t rfl rfl (by omega) ?_
          | refine run_guard1f rfl rfl (by omega) ?_
          | refine run_guard0t rfl rfl (by omega) ?_
          | refine run_guard0f rfl rfl (by omega) ?_
          | refine run_guard1 rfl rfl (fun h1 => ?_) (fun h1 => ?_)
          | refine run_guard0 rfl rfl (fun h1 => ?_) (fun h1 => ?_)
          | refine run_guard rfl rfl (fun h1 => ?_) (fun h1 => ?_)
          | refine run_nil ?_
          | refine Own.so ?_
          | refine Own.sol ?_
          | refine Own.som (n := 1) ?_
          | refine Own.som ?_
          | refine Own.sow ?_
          | refine Own.sob ?_
          | refine Own.runo_want rfl rfl ?_
          | refine Own.runo_unwant rfl rfl ?_
          | refine Own.runo_undef rfl rfl ?_
          | refine Own.runo_guard1 rfl rfl (fun h1 => ?_) (fun h1 => ?_)
          | refine Own.runo_guard0 rfl rfl (fun h1 => ?_) (fun h1 => ?_)
          | refine Own.runo_guard rfl rfl (fun h1 => ?_) (fun h1 => ?_)
          | refine Own.runo_nil ?_
          | refine sd ?_
          | refine sdl ?_
          | refine sdm (n := 1) ?_
          | refine sdm ?_
          | refine sdb ?_
          | refine rund_want rfl rfl ?_
          | refine rund_unwant rfl rfl ?_
          | refine rund_undef rfl rfl ?_
          | refine rund_guard1 rfl rfl (fun h1 => ?_) (fun h1 => ?_)
          | refine rund_guard0 rfl rfl (fun h1 => ?_) (fun h1 => ?_)
          | refine rund_guard rfl rfl (fun h1 => ?_) (fun h1 => ?_)
          | refine rund_nil ?_
          | refine aw_seq ?_
          | refine aw_region (by kernel_rfl) (Nat.le_of_ble_eq_true rfl) ?_
          | refine aw_region_oC (id := 13) [0, 0, 2, 7, 0, 0, 32, 96, 255, 511, 1023] 8 [[], [], [], [1], [], [], [], [], [], [], []] (by (repeat constructor)) (by kernel_rfl) (by kernel_rfl) (by kernel_rfl) (by rfl) (by rfl) ?_
          | refine aw_region_dC (id := 22) [0, 0, 0, 6, 14, 0, 63, 127, 255, 255, 255, 0, 2559, 7167, 16383] 12 (by (repeat constructor)) (by kernel_rfl) (by kernel_rfl) (by kernel_rfl) (by rfl) ?_
          | refine aw_region_dC (id := 32) [0, 0, 0, 0, 0, 24, 56, 0, 252, 508, 1020, 1020, 2047, 6143, 16383] 13 (by (repeat constructor)) (by kernel_rfl) (by kernel_rfl) (by kernel_rfl) (by rfl) ?_
          | refine aw_block ?_
          | refine aw_cond_t rfl ?_
          | refine aw_cond_f rfl ?_
          | refine aw_cond_tp rfl (by omega) ?_
          | refine aw_cond_fp rfl (by omega) ?_
          | refine aw_cond1 rfl (fun h1 => ?_) (fun h1 => ?_)
          | refine aw_cond rfl (fun h1 => ?_) (fun h1 => ?_)
          | refine aw_skip ?_
          | refine aw_exit ?_
          | refine aw_ret ?_
          | refine pp_ret ?_
          | refine pp_normal ?_
        all_goals first | exact Exists.intro ⟨i + 1, Q ++ [(p, 0)]⟩ ⟨fitsD [0, 6, 8, 3], ⟨hi, by dsimp only; rw [List.length_append, g2]; rfl, hI⟩, by dsimp only; omega⟩ | (exfalso; omega)
      · skip
        repeat' first
          | refine st (h := ok_not_dec2 rfl) ?_
          | refine sd (h := ok_not_dec2 rfl) ?_
          | refine st (h := ok_load_mapE (f := Value.int .u32) i hx rfl rfl rfl (by omega)) ?_
          | refine Own.sow (n := 1) (h := ok_append (cs := (Q ++ [(p, 0)]).flatMap (rmF l)) (olds := Q.flatMap (rmF l)) rfl rfl rfl rfl rfl rfl (Src.slc rfl Ty.eq rfl (Nat.le_of_ble_eq_true rfl) rfl rfl rfl) (by rw [rmF_len, g2]; omega) (take_full2 (by rw [rmF_len, g2]; omega)) (by exact rmF_snoc (l := l) (L := Q) (c := (p, 0))) (by omega) (by (repeat constructor))) ?_
          | refine Own.sob (n := 1) (h := ok_append (cs := List.map (Value.int .i64) ((Q ++ [(p, 0)]).map Prod.fst)) (olds := List.map (Value.int .i64) (Q.map Prod.fst)) rfl rfl rfl rfl rfl rfl (Src.slc rfl Ty.eq rfl (Nat.le_of_ble_eq_true rfl) rfl rfl rfl) (by rw [List.length_map, List.length_map, g2]; omega) (take_full2 (by rw [List.length_map, List.length_map, g2]; omega)) (by exact fst_snoc (Q := Q) (p := p)) (by omega) (by (repeat constructor))) ?_
          | refine st ?_
          | refine st_call (H0) ?_
          | refine sd_call (H0) ?_
          | refine stRW [2] HH ?_
          | refine sdRW [2] HH ?_
          | refine stm ?_
          | refine run_want rfl rfl ?_
          | refine run_unwant rfl rfl ?_
          | refine run_undef rfl rfl ?_
          | refine run_guard1t rfl rfl (by omega) ?_
          | refine run_guard1f rfl rfl (by omega) ?_
          | refine run_guard0t rfl rfl (by omega) ?_
          | refine run_guard0f rfl rfl (by omega) ?_
          | refine run_guard1 rfl rfl (fun h1 => ?_) (fun h1 => ?_)
          | refine run_guard0 rfl rfl (fun h1 => ?_) (fun h1 => ?_)
          | refine run_guard rfl rfl (fun h1 => ?_) (fun h1 => ?_)
          | refine run_nil ?_
          | refine Own.so ?_
          | refine Own.sol ?_
          | refine Own.som (n := 1) ?_
          | refine Own.som ?_
          | refine Own.sow ?_
          | refine Own.sob ?_
          | refine Own.runo_want rfl rfl ?_
          | refine Own.runo_unwant rfl rfl ?_
          | refine Own.runo_undef rfl rfl ?_
          | refine Own.runo_guard1 rfl rfl (fun h1 => ?_) (fun h1 => ?_)
          | refine Own.runo_guard0 rfl rfl (fun h1 => ?_) (fun h1 => ?_)
          | refine Own.runo_guard rfl rfl (fun h1 => ?_) (fun h1 => ?_)
          | refine Own.runo_nil ?_
          | refine sd ?_
          | refine sdl ?_
          | refine sdm (n := 1) ?_
          | refine sdm ?_
          | refine sdb ?_
          | refine rund_want rfl rfl ?_
          | refine rund_unwant rfl rfl ?_
          | refine rund_undef rfl rfl ?_
          | refine rund_guard1 rfl rfl (fun h1 => ?_) (fun h1 => ?_)
          | refine rund_guard0 rfl rfl (fun h1 => ?_) (fun h1 => ?_)
          | refine rund_guard rfl rfl (fun h1 => ?_) (fun h1 => ?_)
          | refine rund_nil ?_
          | refine aw_seq ?_
          | refine aw_region (by kernel_rfl) (Nat.le_of_ble_eq_true rfl) ?_
          | refine aw_region_oC (id := 13) [0, 0, 2, 7, 0, 0, 32, 96, 255, 511, 1023] 8 [[], [], [], [1], [], [], [], [], [], [], []] (by (repeat constructor)) (by kernel_rfl) (by kernel_rfl) (by kernel_rfl) (by rfl) (by rfl) ?_
          | refine aw_region_dC (id := 22) [0, 0, 0, 6, 14, 0, 63, 127, 255, 255, 255, 0, 2559, 7167, 16383] 12 (by (repeat constructor)) (by kernel_rfl) (by kernel_rfl) (by kernel_rfl) (by rfl) ?_
          | refine aw_region_dC (id := 32) [0, 0, 0, 0, 0, 24, 56, 0, 252, 508, 1020, 1020, 2047, 6143, 16383] 13 (by (repeat constructor)) (by kernel_rfl) (by kernel_rfl) (by kernel_rfl) (by rfl) ?_
          | refine aw_block ?_
          | refine aw_cond_t rfl ?_
          | refine aw_cond_f rfl ?_
          | refine aw_cond_tp rfl (by omega) ?_
          | refine aw_cond_fp rfl (by omega) ?_
          | refine aw_cond1 rfl (fun h1 => ?_) (fun h1 => ?_)
          | refine aw_cond rfl (fun h1 => ?_) (fun h1 => ?_)
          | refine aw_skip ?_
          | refine aw_exit ?_
          | refine aw_ret ?_
          | refine pp_ret ?_
          | refine pp_normal ?_
        all_goals first | exact pm_ret _ (renumD [0]) rfl | (exfalso; omega)
    · obtain rfl : i = n := by omega
      repeat' first
        | refine st (h := ok_not_dec2 rfl) ?_
        | refine sd (h := ok_not_dec2 rfl) ?_
        | refine st ?_
        | refine stm ?_
        | refine run_want rfl rfl ?_
        | refine run_unwant rfl rfl ?_
        | refine run_undef rfl rfl ?_
        | refine run_guard1t rfl rfl (by omega) ?_
        | refine run_guard1f rfl rfl (by omega) ?_
        | refine run_guard0t rfl rfl (by omega) ?_
        | refine run_guard0f rfl rfl (by omega) ?_
        | refine run_guard1 rfl rfl (fun h1 => ?_) (fun h1 => ?_)
        | refine run_guard0 rfl rfl (fun h1 => ?_) (fun h1 => ?_)
        | refine run_guard rfl rfl (fun h1 => ?_) (fun h1 => ?_)
        | refine run_nil ?_
        | refine sd ?_
        | refine sdl ?_
        | refine sdm (n := 1) ?_
        | refine sdm ?_
        | refine sdb ?_
        | refine rund_want rfl rfl ?_
        | refine rund_unwant rfl rfl ?_
        | refine rund_undef rfl rfl ?_
        | refine rund_guard1 rfl rfl (fun h1 => ?_) (fun h1 => ?_)
        | refine rund_guard0 rfl rfl (fun h1 => ?_) (fun h1 => ?_)
        | refine rund_guard rfl rfl (fun h1 => ?_) (fun h1 => ?_)
        | refine rund_nil ?_
        | refine aw_seq ?_
        | refine aw_region (by kernel_rfl) (Nat.le_of_ble_eq_true rfl) ?_
        | refine aw_region_dC (id := 13) [0, 0, 2, 7, 0, 0, 32, 96, 255, 511, 1023] 3 (by (repeat constructor)) (by kernel_rfl) (by kernel_rfl) (by kernel_rfl) (by rfl) ?_
        | refine aw_region_dC (id := 22) [0, 0, 0, 6, 14, 0, 63, 127, 255, 255, 255, 0, 2559, 7167, 16383] 12 (by (repeat constructor)) (by kernel_rfl) (by kernel_rfl) (by kernel_rfl) (by rfl) ?_
        | refine aw_region_dC (id := 32) [0, 0, 0, 0, 0, 24, 56, 0, 252, 508, 1020, 1020, 2047, 6143, 16383] 13 (by (repeat constructor)) (by kernel_rfl) (by kernel_rfl) (by kernel_rfl) (by rfl) ?_
        | refine aw_block ?_
        | refine aw_cond_t rfl ?_
        | refine aw_cond_f rfl ?_
        | refine aw_cond_tp rfl (by omega) ?_
        | refine aw_cond_fp rfl (by omega) ?_
        | refine aw_cond1 rfl (fun h1 => ?_) (fun h1 => ?_)
        | refine aw_cond rfl (fun h1 => ?_) (fun h1 => ?_)
        | refine aw_skip ?_
        | refine aw_exit ?_
        | refine aw_ret ?_
        | refine pp_ret ?_
        | refine pp_normal ?_
      refine aw_loopg
        (S := fun y : Pg2 => [(2, .pointer (some ⟨2, 0, none⟩)), (5, .slice (some ⟨1, 0, none⟩) i i), (11, .int .i64 y.made), (65, .int .i64 l), (66, .int .i64 y.i)])
        (B := fun y : Pg2 => [some ⟨List.map (Value.int .u32) X, false, 1⟩, some ⟨y.Q.flatMap (rmF l), true, 4⟩, some ⟨[.int .i64 l, .int .i64 d, .int .i64 e], true, 1⟩])
        (R := fun y : Pg2 => (y.i : Int) ≤ l ∧ PInv e l i y.i 0 y.made y.Q)
        (μ := fun y : Pg2 => l.toNat - y.i) ⟨0, 0, Q⟩ (fitsD [0, 1, 3]) ⟨by dsimp only; omega, PInv.zero g2 l1 e1 g3.rng g3.dst⟩ ?_
      clear g3 g2 Q
      rintro ⟨s, made, Q⟩ ⟨k1, k2⟩
      dsimp only at *
      by_cases hs : (s : Int) < l
      · skip
        repeat' first
          | refine st (h := ok_not_dec2 rfl) ?_
          | refine sd (h := ok_not_dec2 rfl) ?_
          | refine st ?_
          | refine stm ?_
          | refine run_want rfl rfl ?_
          | refine run_unwant rfl rfl ?_
          | refine run_undef rfl rfl ?_
          | refine run_guard1t rfl rfl (by omega) ?_
          | refine run_guard1f rfl rfl (by omega) ?_
          | refine run_guard0t rfl rfl (by omega) ?_
          | refine run_guard0f rfl rfl (by omega) ?_
          | refine run_guard1 rfl rfl (fun h1 => ?_) (fun h1 => ?_)
          | refine run_guard0 rfl rfl (fun h1 => ?_) (fun h1 => ?_)
          | refine run_guard rfl rfl (fun h1 => ?_) (fun h1 => ?_)
          | refine run_nil ?_
          | refine sd ?_
          | refine sdl ?_
          | refine sdm (n := 1) ?_
          | refine sdm ?_
          | refine sdb ?_
          | refine rund_want rfl rfl ?_
          | refine rund_unwant rfl rfl ?_
          | refine rund_undef rfl rfl ?_
          | refine rund_guard1 rfl rfl (fun h1 => ?_) (fun h1 => ?_)
          | refine rund_guard0 rfl rfl (fun h1 => ?_) (fun h1 => ?_)
          | refine rund_guard rfl rfl (fun h1 => ?_) (fun h1 => ?_)
          | refine rund_nil ?_
          | refine aw_seq ?_
          | refine aw_region (by kernel_rfl) (Nat.le_of_ble_eq_true rfl) ?_
          | refine aw_region_dC (id := 13) [0, 0, 2, 7, 0, 0, 32, 96, 255, 511, 1023] 3 (by (repeat constructor)) (by kernel_rfl) (by kernel_rfl) (by kernel_rfl) (by rfl) ?_
          | refine aw_region_dC (id := 22) [0, 0, 0, 6, 14, 0, 63, 127, 255, 255, 255, 0, 2559, 7167, 16383] 12 (by (repeat constructor)) (by kernel_rfl) (by kernel_rfl) (by kernel_rfl) (by rfl) ?_
          | refine aw_region_dC (id := 32) [0, 0, 0, 0, 0, 24, 56, 0, 252, 508, 1020, 1020, 2047, 6143, 16383] 13 (by (repeat constructor)) (by kernel_rfl) (by kernel_rfl) (by kernel_rfl) (by rfl) ?_
          | refine aw_block ?_
          | refine aw_cond_t rfl ?_
          | refine aw_cond_f rfl ?_
          | refine aw_cond_tp rfl (by omega) ?_
          | refine aw_cond_fp rfl (by omega) ?_
          | refine aw_cond1 rfl (fun h1 => ?_) (fun h1 => ?_)
          | refine aw_cond rfl (fun h1 => ?_) (fun h1 => ?_)
          | refine aw_skip ?_
          | refine aw_exit ?_
          | refine aw_ret ?_
          | refine pp_ret ?_
          | refine pp_normal ?_
        refine aw_loopg
          (S := fun y : Pg2 => [(2, .pointer (some ⟨2, 0, none⟩)), (5, .slice (some ⟨1, 0, none⟩) i i), (11, .int .i64 y.made), (12, .int .i64 s), (65, .int .i64 l), (66, .int .i64 s), (70, .int .i64 i), (71, .int .i64 y.i)])
          (B := fun y : Pg2 => [some ⟨List.map (Value.int .u32) X, false, 1⟩, some ⟨y.Q.flatMap (rmF l), true, 4⟩, some ⟨[.int .i64 l, .int .i64 d, .int .i64 e], true, 1⟩])
          (R := fun y : Pg2 => y.i ≤ i ∧ PInv e l i s y.i y.made y.Q)
          (μ := fun y : Pg2 => i - y.i) ⟨0, made, Q⟩ (fitsD [0, 1, 2]) ⟨Nat.zero_le _, k2⟩ ?_
        clear k2 made Q
        rintro ⟨j, made, Q⟩ ⟨m1, m2⟩
        dsimp only at *
        by_cases hj : j < i
        · have hQl := m2.len
          obtain ⟨⟨p, h⟩, hq⟩ : ∃ q, Q[j]? = some q := ⟨_, List.getElem?_eq_getElem (by omega)⟩
          have hr := m2.rng j _ hq
          have hml := m2.le
          dsimp only at hr
          have hset : Q.set j (p, h) = Q := by
            apply List.ext_getElem?
            intro k
            by_cases hk : j = k
            · subst hk; rw [List.getElem?_set_self (by omega), hq]
            · rw [List.getElem?_set_ne hk]
          obtain ⟨y, hy⟩ : ∃ y, decide ((s : Int) = p ∧ (e = 0 ∨ h < e)) = y := ⟨_, rfl⟩
          have HS := ac_step_in l d e l 0 p h s 0 y (cE_in hg ⟨hr.1, hr.2.1⟩ (by omega) (by omega)) (by omega) hy
          cases y
          · have hy := of_decide_eq_false hy
            have hnx : PInv e l i s (j + 1) made Q := by
              by_cases hps : p = s
              · exact m2.hush hq hps (by omega) (by dsimp only; omega)
              · exact m2.pass hq hps
            repeat' first
              | refine st (h := ok_not_dec2 rfl) ?_
              | refine sd (h := ok_not_dec2 rfl) ?_
              | refine sdl (h := ok_load_rowsE (f := rmF l) (cs := [.int .i64 l, .int .i64 0, .int .i64 p, .int .i64 h]) (j) (fun _ => rfl) hq rfl rfl rfl rfl (by omega)) ?_
              | refine st (h := ok_load_rowsE (f := rmF l) (cs := [.int .i64 l, .int .i64 0, .int .i64 p, .int .i64 h]) (j) (fun _ => rfl) hq rfl rfl rfl rfl (by omega)) ?_
              | refine stm (h := ok_storeN (vs := rmF l (p, h)) (cs' := (Q.set j (p, h)).flatMap (rmF l)) rfl rfl (ListR.refl _) rfl rfl rfl rfl (splice_rows (n := 4) (fun _ => rfl) (by first | rfl | (rw [Nat.zero_add]; rfl)) (by omega)) (by ((repeat constructor); first | done | fail)) rfl) ?_
              | refine st ?_
              | refine st_call (HS) ?_
              | refine sd_call (HS) ?_
              | refine stm ?_
              | refine run_want rfl rfl ?_
              | refine run_unwant rfl rfl ?_
              | refine run_undef rfl rfl ?_
              | refine run_guard1t rfl rfl (by omega) ?_
              | refine run_guard1f rfl rfl (by omega) ?_
              | refine run_guard0t rfl rfl (by omega) ?_
              | refine run_guard0f rfl rfl (by omega) ?_
              | refine run_guard1 rfl rfl (fun h1 => ?_) (fun h1 => ?_)
              | refine run_guard0 rfl rfl (fun h1 => ?_) (fun h1 => ?_)
              | refine run_guard rfl rfl (fun h1 => ?_) (fun h1 => ?_)
              | refine run_nil ?_
              | refine sd ?_
              | refine sdl ?_
              | refine sdm (n := 1) ?_
              | refine sdm ?_
              | refine sdb ?_
              | refine rund_want rfl rfl ?_
              | refine rund_unwant rfl rfl ?_
              | refine rund_undef rfl rfl ?_
              | refine rund_guard1 rfl rfl (fun h1 => ?_) (fun h1 => ?_)
              | refine rund_guard0 rfl rfl (fun h1 => ?_) (fun h1 => ?_)
              | refine rund_guard rfl rfl (fun h1 => ?_) (fun h1 => ?_)
              | refine rund_nil ?_
              | refine aw_seq ?_
              | refine aw_region (by kernel_rfl) (Nat.le_of_ble_eq_true rfl) ?_
              | refine aw_region_dC (id := 13) [0, 0, 2, 7, 0, 0, 32, 96, 255, 511, 1023] 3 (by (repeat constructor)) (by kernel_rfl) (by kernel_rfl) (by kernel_rfl) (by rfl) ?_
              | refine aw_region_dC (id := 22) [0, 0, 0, 6, 14, 0, 63, 127, 255, 255, 255, 0, 2559, 7167, 16383] 12 (by (repeat constructor)) (by kernel_rfl) (by kernel_rfl) (by kernel_rfl) (by rfl) ?_
              | refine aw_region_dC (id := 32) [0, 0, 0, 0, 0, 24, 56, 0, 252, 508, 1020, 1020, 2047, 6143, 16383] 13 (by (repeat constructor)) (by kernel_rfl) (by kernel_rfl) (by kernel_rfl) (by rfl) ?_
              | refine aw_block ?_
              | refine aw_cond_t rfl ?_
              | refine aw_cond_f rfl ?_
              | refine aw_cond_tp rfl (by omega) ?_
              | refine aw_cond_fp rfl (by omega) ?_
              | refine aw_cond1 rfl (fun h1 => ?_) (fun h1 => ?_)
              | refine aw_cond rfl (fun h1 => ?_) (fun h1 => ?_)
              | refine aw_skip ?_
              | refine aw_exit ?_
              | refine aw_ret ?_
              | refine pp_ret ?_
              | refine pp_normal ?_
            all_goals first | (rw [hset]; exact Exists.intro ⟨j + 1, made, Q⟩ ⟨fitsD [0, 1, 2], ⟨hj, hnx⟩, by dsimp only; omega⟩) | (exfalso; omega)
          · have hy := of_decide_eq_true hy
            repeat' first
              | refine st (h := ok_not_dec2 rfl) ?_
              | refine sd (h := ok_not_dec2 rfl) ?_
              | refine sdl (h := ok_load_rowsE (f := rmF l) (cs := [.int .i64 l, .int .i64 0, .int .i64 p, .int .i64 h]) (j) (fun _ => rfl) hq rfl rfl rfl rfl (by omega)) ?_
              | refine st (h := ok_load_rowsE (f := rmF l) (cs := [.int .i64 l, .int .i64 0, .int .i64 p, .int .i64 h]) (j) (fun _ => rfl) hq rfl rfl rfl rfl (by omega)) ?_
              | refine stm (h := ok_storeN (vs := rmF l (p, h)) (cs' := (Q.set j (p, h)).flatMap (rmF l)) rfl rfl (ListR.refl _) rfl rfl rfl rfl (splice_rows (n := 4) (fun _ => rfl) (by first | rfl | (rw [Nat.zero_add]; rfl)) (by omega)) (by ((repeat constructor); first | done | fail)) rfl) ?_
              | refine st ?_
              | refine st_call (HS) ?_
              | refine sd_call (HS) ?_
              | refine stm ?_
              | refine run_want rfl rfl ?_
              | refine run_unwant rfl rfl ?_
              | refine run_undef rfl rfl ?_
              | refine run_guard1t rfl rfl (by omega) ?_
              | refine run_guard1f rfl rfl (by omega) ?_
              | refine run_guard0t rfl rfl (by omega) ?_
              | refine run_guard0f rfl rfl (by omega) ?_
              | refine run_guard1 rfl rfl (fun h1 => ?_) (fun h1 => ?_)
              | refine run_guard0 rfl rfl (fun h1 => ?_) (fun h1 => ?_)
              | refine run_guard rfl rfl (fun h1 => ?_) (fun h1 => ?_)
              | refine run_nil ?_
              | refine sd ?_
              | refine sdl ?_
              | refine sdm (n := 1) ?_
              | refine sdm ?_
              | refine sdb ?_
              | refine rund_want rfl rfl ?_
              | refine rund_unwant rfl rfl ?_
              | refine rund_undef rfl rfl ?_
              | refine rund_guard1 rfl rfl (fun h1 => ?_) (fun h1 => ?_)
              | refine rund_guard0 rfl rfl (fun h1 => ?_) (fun h1 => ?_)
              | refine rund_guard rfl rfl (fun h1 => ?_) (fun h1 => ?_)
              | refine rund_nil ?_
              | refine aw_seq ?_
              | refine aw_region (by kernel_rfl) (Nat.le_of_ble_eq_true rfl) ?_
              | refine aw_region_dC (id := 13) [0, 0, 2, 7, 0, 0, 32, 96, 255, 511, 1023] 3 (by (repeat constructor)) (by kernel_rfl) (by kernel_rfl) (by kernel_rfl) (by rfl) ?_
              | refine aw_region_dC (id := 22) [0, 0, 0, 6, 14, 0, 63, 127, 255, 255, 255, 0, 2559, 7167, 16383] 12 (by (repeat constructor)) (by kernel_rfl) (by kernel_rfl) (by kernel_rfl) (by rfl) ?_
              | refine aw_region_dC (id := 32) [0, 0, 0, 0, 0, 24, 56, 0, 252, 508, 1020, 1020, 2047, 6143, 16383] 13 (by (repeat constructor)) (by kernel_rfl) (by kernel_rfl) (by kernel_rfl) (by rfl) ?_
              | refine aw_block ?_
              | refine aw_cond_t rfl ?_
              | refine aw_cond_f rfl ?_
              | refine aw_cond_tp rfl (by omega) ?_
              | refine aw_cond_fp rfl (by omega) ?_
              | refine aw_cond1 rfl (fun h1 => ?_) (fun h1 => ?_)
              | refine aw_cond rfl (fun h1 => ?_) (fun h1 => ?_)
              | refine aw_skip ?_
              | refine aw_exit ?_
              | refine aw_ret ?_
              | refine pp_ret ?_
              | refine pp_normal ?_
            clear HS
            rw [hset]
            refine aw_loopg
              (S := fun y : Pg1 => [(2, .pointer (some ⟨2, 0, none⟩)), (5, .slice (some ⟨1, 0, none⟩) i i), (11, .int .i64 (made + 1)), (12, .int .i64 s), (13, .int .i64 j), (65, .int .i64 l), (66, .int .i64 s), (70, .int .i64 i), (71, .int .i64 j), (96, .int .i64 i), (97, .int .i64 y.i)])
              (B := fun y : Pg1 => [some ⟨List.map (Value.int .u32) X, false, 1⟩, some ⟨y.Q.flatMap (rmF l), true, 4⟩, some ⟨[.int .i64 l, .int .i64 d, .int .i64 e], true, 1⟩])
              (R := fun y : Pg1 => y.i ≤ i ∧ Hrd Q j y.i y.Q)
              (μ := fun y : Pg1 => i - y.i) ⟨0, Q⟩ (fitsD [0, 1, 2]) ⟨Nat.zero_le _, Hrd.init Q j⟩ ?_
            rintro ⟨k, W⟩ ⟨n1, n2⟩
            dsimp only at *
            by_cases hk : k < i
            · by_cases hkj : k = j
              · subst hkj
                have hst := n2.skip
                repeat' first
                  | refine st (h := ok_not_dec2 rfl) ?_
                  | refine sd (h := ok_not_dec2 rfl) ?_
                  | refine st ?_
                  | refine stm ?_
                  | refine run_want rfl rfl ?_
                  | refine run_unwant rfl rfl ?_
                  | refine run_undef rfl rfl ?_
                  | refine run_guard1t rfl rfl (by omega) ?_
                  | refine run_guard1f rfl rfl (by omega) ?_
                  | refine run_guard0t rfl rfl (by omega) ?_
                  | refine run_guard0f rfl rfl (by omega) ?_
                  | refine run_guard1 rfl rfl (fun h1 => ?_) (fun h1 => ?_)
                  | refine run_guard0 rfl rfl (fun h1 => ?_) (fun h1 => ?_)
                  | refine run_guard rfl rfl (fun h1 => ?_) (fun h1 => ?_)
                  | refine run_nil ?_
                  | refine sd ?_
                  | refine sdl ?_
                  | refine sdm (n := 1) ?_
                  | refine sdm ?_
                  | refine sdb ?_
                  | refine rund_want rfl rfl ?_
                  | refine rund_unwant rfl rfl ?_
                  | refine rund_undef rfl rfl ?_
                  | refine rund_guard1 rfl rfl (fun h1 => ?_) (fun h1 => ?_)
                  | refine rund_guard0 rfl rfl (fun h1 => ?_) (fun h1 => ?_)
                  | refine rund_guard rfl rfl (fun h1 => ?_) (fun h1 => ?_)
                  | refine rund_nil ?_
                  | refine aw_seq ?_
                  | refine aw_region (by kernel_rfl) (Nat.le_of_ble_eq_true rfl) ?_
                  | refine aw_region_dC (id := 13) [0, 0, 2, 7, 0, 0, 32, 96, 255, 511, 1023] 3 (by (repeat constructor)) (by kernel_rfl) (by kernel_rfl) (by kernel_rfl) (by rfl) ?_
                  | refine aw_region_dC (id := 22) [0, 0, 0, 6, 14, 0, 63, 127, 255, 255, 255, 0, 2559, 7167, 16383] 12 (by (repeat constructor)) (by kernel_rfl) (by kernel_rfl) (by kernel_rfl) (by rfl) ?_
                  | refine aw_region_dC (id := 32) [0, 0, 0, 0, 0, 24, 56, 0, 252, 508, 1020, 1020, 2047, 6143, 16383] 13 (by (repeat constructor)) (by kernel_rfl) (by kernel_rfl) (by kernel_rfl) (by rfl) ?_
                  | refine aw_block ?_
                  | refine aw_cond_t rfl ?_
                  | refine aw_cond_f rfl ?_
                  | refine aw_cond_tp rfl (by omega) ?_
                  | refine aw_cond_fp rfl (by omega) ?_
                  | refine aw_cond1 rfl (fun h1 => ?_) (fun h1 => ?_)
                  | refine aw_cond rfl (fun h1 => ?_) (fun h1 => ?_)
                  | refine aw_skip ?_
                  | refine aw_exit ?_
                  | refine aw_ret ?_
                  | refine pp_ret ?_
                  | refine pp_normal ?_
                all_goals first | exact Exists.intro ⟨k + 1, W⟩ ⟨fitsD [0, 1, 2], ⟨hk, hst⟩, by dsimp only; omega⟩ | (exfalso; omega)
              · obtain ⟨⟨p2, h2⟩, hq2⟩ : ∃ q, Q[k]? = some q := ⟨_, List.getElem?_eq_getElem (by omega)⟩
                have hr2 := m2.rng k _ hq2
                dsimp only at hr2
                have hw2 := n2.at hq2
                have hWl : W.length = i := by rw [n2.1, hQl]
                have hst := n2.set hkj hq2
                have HE := ac_hear_eq l d e l 0 p2 h2 s 0 (h2 + 1) (cE_in hg ⟨hr2.1, hr2.2.1⟩ (by omega) (by omega)) (by omega)
                repeat' first
                  | refine st (h := ok_not_dec2 rfl) ?_
                  | refine sd (h := ok_not_dec2 rfl) ?_
                  | refine sdl (h := ok_load_rowsE (f := rmF l) (cs := [.int .i64 l, .int .i64 0, .int .i64 p2, .int .i64 h2]) (k) (fun _ => rfl) hw2 rfl rfl rfl rfl (by omega)) ?_
                  | refine sdb (h := ok_storeN (vs := rmF l (p2, h2 + 1)) (cs' := (W.set k (p2, h2 + 1)).flatMap (rmF l)) rfl rfl (ListR.refl _) rfl rfl rfl rfl (splice_rows (n := 4) (fun _ => rfl) (by first | rfl | (rw [Nat.zero_add]; rfl)) (by omega)) (by ((repeat constructor); first | done | fail)) rfl) ?_
                  | refine st ?_
                  | refine st_call (HE) ?_
                  | refine sd_call (HE) ?_
                  | refine stm ?_
                  | refine run_want rfl rfl ?_
                  | refine run_unwant rfl rfl ?_
                  | refine run_undef rfl rfl ?_
                  | refine run_guard1t rfl rfl (by omega) ?_
                  | refine run_guard1f rfl rfl (by omega) ?_
                  | refine run_guard0t rfl rfl (by omega) ?_
                  | refine run_guard0f rfl rfl (by omega) ?_
                  | refine run_guard1 rfl rfl (fun h1 => ?_) (fun h1 => ?_)
                  | refine run_guard0 rfl rfl (fun h1 => ?_) (fun h1 => ?_)
                  | refine run_guard rfl rfl (fun h1 => ?_) (fun h1 => ?_)
                  | refine run_nil ?_
                  | refine sd ?_
                  | refine sdl ?_
                  | refine sdm (n := 1) ?_
                  | refine sdm ?_
                  | refine sdb ?_
                  | refine rund_want rfl rfl ?_
                  | refine rund_unwant rfl rfl ?_
                  | refine rund_undef rfl rfl ?_
                  | refine rund_guard1 rfl rfl (fun h1 => ?_) (fun h1 => ?_)
                  | refine rund_guard0 rfl rfl (fun h1 => ?_) (fun h1 => ?_)
                  | refine rund_guard rfl rfl (fun h1 => ?_) (fun h1 => ?_)
                  | refine rund_nil ?_
                  | refine aw_seq ?_
                  | refine aw_region (by kernel_rfl) (Nat.le_of_ble_eq_true rfl) ?_
                  | refine aw_region_dC (id := 13) [0, 0, 2, 7, 0, 0, 32, 96, 255, 511, 1023] 3 (by (repeat constructor)) (by kernel_rfl) (by kernel_rfl) (by kernel_rfl) (by rfl) ?_
                  | refine aw_region_dC (id := 22) [0, 0, 0, 6, 14, 0, 63, 127, 255, 255, 255, 0, 2559, 7167, 16383] 12 (by (repeat constructor)) (by kernel_rfl) (by kernel_rfl) (by kernel_rfl) (by rfl) ?_
                  | refine aw_region_dC (id := 32) [0, 0, 0, 0, 0, 24, 56, 0, 252, 508, 1020, 1020, 2047, 6143, 16383] 13 (by (repeat constructor)) (by kernel_rfl) (by kernel_rfl) (by kernel_rfl) (by rfl) ?_
                  | refine aw_block ?_
                  | refine aw_cond_t rfl ?_
                  | refine aw_cond_f rfl ?_
                  | refine aw_cond_tp rfl (by omega) ?_
                  | refine aw_cond_fp rfl (by omega) ?_
                  | refine aw_cond1 rfl (fun h1 => ?_) (fun h1 => ?_)
                  | refine aw_cond rfl (fun h1 => ?_) (fun h1 => ?_)
                  | refine aw_skip ?_
                  | refine aw_exit ?_
                  | refine aw_ret ?_
                  | refine pp_ret ?_
                  | refine pp_normal ?_
                all_goals first | exact Exists.intro ⟨k + 1, W.set k (p2, h2 + 1)⟩ ⟨fitsD [0, 1, 2], ⟨hk, hst⟩, by dsimp only; omega⟩ | (exfalso; omega)
            · obtain rfl : k = i := by omega
              have hnx := m2.speak hq hy.1.symm hy.2 n2
              repeat' first
                | refine st (h := ok_not_dec2 rfl) ?_
                | refine sd (h := ok_not_dec2 rfl) ?_
                | refine st ?_
                | refine stm ?_
                | refine run_want rfl rfl ?_
                | refine run_unwant rfl rfl ?_
                | refine run_undef rfl rfl ?_
                | refine run_guard1t rfl rfl (by omega) ?_
                | refine run_guard1f rfl rfl (by omega) ?_
                | refine run_guard0t rfl rfl (by omega) ?_
                | refine run_guard0f rfl rfl (by omega) ?_
                | refine run_guard1 rfl rfl (fun h1 => ?_) (fun h1 => ?_)
                | refine run_guard0 rfl rfl (fun h1 => ?_) (fun h1 => ?_)
                | refine run_guard rfl rfl (fun h1 => ?_) (fun h1 => ?_)
                | refine run_nil ?_
                | refine sd ?_
                | refine sdl ?_
                | refine sdm (n := 1) ?_
                | refine sdm ?_
                | refine sdb ?_
                | refine rund_want rfl rfl ?_
                | refine rund_unwant rfl rfl ?_
                | refine rund_undef rfl rfl ?_
                | refine rund_guard1 rfl rfl (fun h1 => ?_) (fun h1 => ?_)
                | refine rund_guard0 rfl rfl (fun h1 => ?_) (fun h1 => ?_)
                | refine rund_guard rfl rfl (fun h1 => ?_) (fun h1 => ?_)
                | refine rund_nil ?_
                | refine aw_seq ?_
                | refine aw_region (by kernel_rfl) (Nat.le_of_ble_eq_true rfl) ?_
                | refine aw_region_dC (id := 13) [0, 0, 2, 7, 0, 0, 32, 96, 255, 511, 1023] 3 (by (repeat constructor)) (by kernel_rfl) (by kernel_rfl) (by kernel_rfl) (by rfl) ?_
                | refine aw_region_dC (id := 22) [0, 0, 0, 6, 14, 0, 63, 127, 255, 255, 255, 0, 2559, 7167, 16383] 12 (by (repeat constructor)) (by kernel_rfl) (by kernel_rfl) (by kernel_rfl) (by rfl) ?_
                | refine aw_region_dC (id := 32) [0, 0, 0, 0, 0, 24, 56, 0, 252, 508, 1020, 1020, 2047, 6143, 16383] 13 (by (repeat constructor)) (by kernel_rfl) (by kernel_rfl) (by kernel_rfl) (by rfl) ?_
                | refine aw_block ?_
                | refine aw_cond_t rfl ?_
                | refine aw_cond_f rfl ?_
                | refine aw_cond_tp rfl (by omega) ?_
                | refine aw_cond_fp rfl (by omega) ?_
                | refine aw_cond1 rfl (fun h1 => ?_) (fun h1 => ?_)
                | refine aw_cond rfl (fun h1 => ?_) (fun h1 => ?_)
                | refine aw_skip ?_
                | refine aw_exit ?_
                | refine aw_ret ?_
                | refine pp_ret ?_
                | refine pp_normal ?_
              all_goals first | exact Exists.intro ⟨j + 1, made + 1, W⟩ ⟨fitsD [0, 1, 2], ⟨hj, hnx⟩, by dsimp only; omega⟩ | (exfalso; omega)
        · obtain rfl : j = i := by omega
          have hnx := m2.slot
          repeat' first
            | refine st (h := ok_not_dec2 rfl) ?_
            | refine sd (h := ok_not_dec2 rfl) ?_
            | refine st ?_
            | refine stm ?_
            | refine run_want rfl rfl ?_
            | refine run_unwant rfl rfl ?_
            | refine run_undef rfl rfl ?_
            | refine run_guard1t rfl rfl (by omega) ?_
            | refine run_guard1f rfl rfl (by omega) ?_
            | refine run_guard0t rfl rfl (by omega) ?_
            | refine run_guard0f rfl rfl (by omega) ?_
            | refine run_guard1 rfl rfl (fun h1 => ?_) (fun h1 => ?_)
            | refine run_guard0 rfl rfl (fun h1 => ?_) (fun h1 => ?_)
            | refine run_guard rfl rfl (fun h1 => ?_) (fun h1 => ?_)
            | refine run_nil ?_
            | refine sd ?_
            | refine sdl ?_
            | refine sdm (n := 1) ?_
            | refine sdm ?_
            | refine sdb ?_
            | refine rund_want rfl rfl ?_
            | refine rund_unwant rfl rfl ?_
            | refine rund_undef rfl rfl ?_
            | refine rund_guard1 rfl rfl (fun h1 => ?_) (fun h1 => ?_)
            | refine rund_guard0 rfl rfl (fun h1 => ?_) (fun h1 => ?_)
            | refine rund_guard rfl rfl (fun h1 => ?_) (fun h1 => ?_)
            | refine rund_nil ?_
            | refine aw_seq ?_
            | refine aw_region (by kernel_rfl) (Nat.le_of_ble_eq_true rfl) ?_
            | refine aw_region_dC (id := 13) [0, 0, 2, 7, 0, 0, 32, 96, 255, 511, 1023] 3 (by (repeat constructor)) (by kernel_rfl) (by kernel_rfl) (by kernel_rfl) (by rfl) ?_
            | refine aw_region_dC (id := 22) [0, 0, 0, 6, 14, 0, 63, 127, 255, 255, 255, 0, 2559, 7167, 16383] 12 (by (repeat constructor)) (by kernel_rfl) (by kernel_rfl) (by kernel_rfl) (by rfl) ?_
            | refine aw_region_dC (id := 32) [0, 0, 0, 0, 0, 24, 56, 0, 252, 508, 1020, 1020, 2047, 6143, 16383] 13 (by (repeat constructor)) (by kernel_rfl) (by kernel_rfl) (by kernel_rfl) (by rfl) ?_
            | refine aw_block ?_
            | refine aw_cond_t rfl ?_
            | refine aw_cond_f rfl ?_
            | refine aw_cond_tp rfl (by omega) ?_
            | refine aw_cond_fp rfl (by omega) ?_
            | refine aw_cond1 rfl (fun h1 => ?_) (fun h1 => ?_)
            | refine aw_cond rfl (fun h1 => ?_) (fun h1 => ?_)
            | refine aw_skip ?_
            | refine aw_exit ?_
            | refine aw_ret ?_
            | refine pp_ret ?_
            | refine pp_normal ?_
          all_goals first | exact Exists.intro ⟨s + 1, made, Q⟩ ⟨fitsD [0, 1, 2], ⟨by dsimp only; omega, hnx⟩, by dsimp only; omega⟩ | (exfalso; omega)
      · have hfin := k2.fin (by omega)
        by_cases he : e = 0
        · rw [if_pos he] at hfin
          repeat' first
            | refine st (h := ok_not_dec2 rfl) ?_
            | refine sd (h := ok_not_dec2 rfl) ?_
            | refine st ?_
            | refine stm ?_
            | refine run_want rfl rfl ?_
            | refine run_unwant rfl rfl ?_
            | refine run_undef rfl rfl ?_
            | refine run_guard1t rfl rfl (by omega) ?_
            | refine run_guard1f rfl rfl (by omega) ?_
            | refine run_guard0t rfl rfl (by omega) ?_
            | refine run_guard0f rfl rfl (by omega) ?_
            | refine run_guard1 rfl rfl (fun h1 => ?_) (fun h1 => ?_)
            | refine run_guard0 rfl rfl (fun h1 => ?_) (fun h1 => ?_)
            | refine run_guard rfl rfl (fun h1 => ?_) (fun h1 => ?_)
            | refine run_nil ?_
            | refine sd ?_
            | refine sdl ?_
            | refine sdm (n := 1) ?_
            | refine sdm ?_
            | refine sdb ?_
            | refine rund_want rfl rfl ?_
            | refine rund_unwant rfl rfl ?_
            | refine rund_undef rfl rfl ?_
            | refine rund_guard1 rfl rfl (fun h1 => ?_) (fun h1 => ?_)
            | refine rund_guard0 rfl rfl (fun h1 => ?_) (fun h1 => ?_)
            | refine rund_guard rfl rfl (fun h1 => ?_) (fun h1 => ?_)
            | refine rund_nil ?_
            | refine aw_seq ?_
            | refine aw_region (by kernel_rfl) (Nat.le_of_ble_eq_true rfl) ?_
            | refine aw_region_dC (id := 13) [0, 0, 2, 7, 0, 0, 32, 96, 255, 511, 1023] 3 (by (repeat constructor)) (by kernel_rfl) (by kernel_rfl) (by kernel_rfl) (by rfl) ?_
            | refine aw_region_dC (id := 22) [0, 0, 0, 6, 14, 0, 63, 127, 255, 255, 255, 0, 2559, 7167, 16383] 12 (by (repeat constructor)) (by kernel_rfl) (by kernel_rfl) (by kernel_rfl) (by rfl) ?_
            | refine aw_region_dC (id := 32) [0, 0, 0, 0, 0, 24, 56, 0, 252, 508, 1020, 1020, 2047, 6143, 16383] 13 (by (repeat constructor)) (by kernel_rfl) (by kernel_rfl) (by kernel_rfl) (by rfl) ?_
            | refine aw_block ?_
            | refine aw_cond_t rfl ?_
            | refine aw_cond_f rfl ?_
            | refine aw_cond_tp rfl (by omega) ?_
            | refine aw_cond_fp rfl (by omega) ?_
            | refine aw_cond1 rfl (fun h1 => ?_) (fun h1 => ?_)
            | refine aw_cond rfl (fun h1 => ?_) (fun h1 => ?_)
            | refine aw_skip ?_
            | refine aw_exit ?_
            | refine aw_ret ?_
            | refine pp_ret ?_
            | refine pp_normal ?_
          all_goals first | (refine pm_ret _ (renumD [0]) ?_; first | rfl | (show Value.bool _ = Value.bool true; congr 1; first | exact decide_eq_true (by omega) | exact decide_eq_true hfin)) | (exfalso; omega)
        · rw [if_neg he] at hfin
          repeat' first
            | refine st (h := ok_not_dec2 rfl) ?_
            | refine sd (h := ok_not_dec2 rfl) ?_
            | refine st ?_
            | refine stm ?_
            | refine run_want rfl rfl ?_
            | refine run_unwant rfl rfl ?_
            | refine run_undef rfl rfl ?_
            | refine run_guard1t rfl rfl (by omega) ?_
            | refine run_guard1f rfl rfl (by omega) ?_
            | refine run_guard0t rfl rfl (by omega) ?_
            | refine run_guard0f rfl rfl (by omega) ?_
            | refine run_guard1 rfl rfl (fun h1 => ?_) (fun h1 => ?_)
            | refine run_guard0 rfl rfl (fun h1 => ?_) (fun h1 => ?_)
            | refine run_guard rfl rfl (fun h1 => ?_) (fun h1 => ?_)
            | refine run_nil ?_
            | refine sd ?_
            | refine sdl ?_
            | refine sdm (n := 1) ?_
            | refine sdm ?_
            | refine sdb ?_
            | refine rund_want rfl rfl ?_
            | refine rund_unwant rfl rfl ?_
            | refine rund_undef rfl rfl ?_
            | refine rund_guard1 rfl rfl (fun h1 => ?_) (fun h1 => ?_)
            | refine rund_guard0 rfl rfl (fun h1 => ?_) (fun h1 => ?_)
            | refine rund_guard rfl rfl (fun h1 => ?_) (fun h1 => ?_)
            | refine rund_nil ?_
            | refine aw_seq ?_
            | refine aw_region (by kernel_rfl) (Nat.le_of_ble_eq_true rfl) ?_
            | refine aw_region_dC (id := 13) [0, 0, 2, 7, 0, 0, 32, 96, 255, 511, 1023] 3 (by (repeat constructor)) (by kernel_rfl) (by kernel_rfl) (by kernel_rfl) (by rfl) ?_
            | refine aw_region_dC (id := 22) [0, 0, 0, 6, 14, 0, 63, 127, 255, 255, 255, 0, 2559, 7167, 16383] 12 (by (repeat constructor)) (by kernel_rfl) (by kernel_rfl) (by kernel_rfl) (by rfl) ?_
            | refine aw_region_dC (id := 32) [0, 0, 0, 0, 0, 24, 56, 0, 252, 508, 1020, 1020, 2047, 6143, 16383] 13 (by (repeat constructor)) (by kernel_rfl) (by kernel_rfl) (by kernel_rfl) (by rfl) ?_
            | refine aw_block ?_
            | refine aw_cond_t rfl ?_
            | refine aw_cond_f rfl ?_
            | refine aw_cond_tp rfl (by omega) ?_
            | refine aw_cond_fp rfl (by omega) ?_
            | refine aw_cond1 rfl (fun h1 => ?_) (fun h1 => ?_)
            | refine aw_cond rfl (fun h1 => ?_) (fun h1 => ?_)
            | refine aw_skip ?_
            | refine aw_exit ?_
            | refine aw_ret ?_
            | refine pp_ret ?_
            | refine pp_normal ?_
          all_goals first | (refine pm_ret _ (renumD [0]) ?_; first | rfl | (show Value.bool _ = Value.bool true; congr 1; first | exact decide_eq_true (by omega) | exact decide_eq_true hfin)) | (exfalso; omega)
  · refine acalls_law Try.func7 rfl rfl rfl ?_
    repeat' first
      | refine st (h := ok_not_dec2 rfl) ?_
      | refine sd (h := ok_not_dec2 rfl) ?_
      | refine st ?_
      | refine st_call (HC) ?_
      | refine st_call (ac_awake47) ?_
      | refine sd_call (HC) ?_
      | refine sd_call (ac_awake47) ?_
      | refine stm ?_
      | refine run_want rfl rfl ?_
      | refine run_unwant rfl rfl ?_
      | refine run_undef rfl rfl ?_
      | refine run_guard1t rfl rfl (by omega) ?_
      | refine run_guard1f rfl rfl (by omega) ?_
      | refine run_guard0t rfl rfl (by omega) ?_
      | refine run_guard0f rfl rfl (by omega) ?_
      | refine run_guard1 rfl rfl (fun h1 => ?_) (fun h1 => ?_)
      | refine run_guard0 rfl rfl (fun h1 => ?_) (fun h1 => ?_)
      | refine run_guard rfl rfl (fun h1 => ?_) (fun h1 => ?_)
      | refine run_nil ?_
      | refine sd ?_
      | refine sdl ?_
      | refine sdm (n := 1) ?_
      | refine sdm ?_
      | refine sdb ?_
      | refine rund_want rfl rfl ?_
      | refine rund_unwant rfl rfl ?_
      | refine rund_undef rfl rfl ?_
      | refine rund_guard1 rfl rfl (fun h1 => ?_) (fun h1 => ?_)
      | refine rund_guard0 rfl rfl (fun h1 => ?_) (fun h1 => ?_)
      | refine rund_guard rfl rfl (fun h1 => ?_) (fun h1 => ?_)
      | refine rund_nil ?_
      | refine aw_seq ?_
      | refine aw_region (by kernel_rfl) (Nat.le_of_ble_eq_true rfl) ?_
      | refine aw_region_dC (id := 13) [0, 0, 2, 7, 0, 0, 32, 96, 255, 511, 1023] 3 (by (repeat constructor)) (by kernel_rfl) (by kernel_rfl) (by kernel_rfl) (by rfl) ?_
      | refine aw_region_dC (id := 22) [0, 0, 0, 6, 14, 0, 63, 127, 255, 255, 255, 0, 2559, 7167, 16383] 12 (by (repeat constructor)) (by kernel_rfl) (by kernel_rfl) (by kernel_rfl) (by rfl) ?_
      | refine aw_region_dC (id := 32) [0, 0, 0, 0, 0, 24, 56, 0, 252, 508, 1020, 1020, 2047, 6143, 16383] 13 (by (repeat constructor)) (by kernel_rfl) (by kernel_rfl) (by kernel_rfl) (by rfl) ?_
      | refine aw_block ?_
      | refine aw_cond_t rfl ?_
      | refine aw_cond_f rfl ?_
      | refine aw_cond_tp rfl (by omega) ?_
      | refine aw_cond_fp rfl (by omega) ?_
      | refine aw_cond1 rfl (fun h1 => ?_) (fun h1 => ?_)
      | refine aw_cond rfl (fun h1 => ?_) (fun h1 => ?_)
      | refine aw_skip ?_
      | refine aw_exit ?_
      | refine aw_ret ?_
      | refine pp_ret ?_
      | refine pp_normal ?_
    all_goals first
      | rfl
      | (exfalso; omega)
      | (simp [retOf]; done)
      | (exfalso; simp_all; done)
end Go.Proofs.Ytcojimifplhodaa
