/- Image: Make of the reference. -/
import Derived.Test.YtpofbjmmlommoaaS9
set_option linter.unusedVariables false
set_option linter.unusedSimpArgs false
namespace Go.Proofs.Ytpofbjmmlommoaa
open Go Av
set_option maxRecDepth 20000
theorem pgS_in {d : ByteArray} {pg : Int} {k : Nat} (h : 1 ≤ pg ∧ pg ≤ 1000000) (hd : d.size ≤ 1000000) (hk : (k : Int) * pg < d.size) : 0 ≤ (k : Int) * pg ∧ ((k : Int) + 1) * pg = k * pg + pg := ⟨Int.mul_nonneg (by omega) (by omega), by rw [Int.add_mul, Int.one_mul]⟩
theorem ac_pageS (d : ByteArray) (pg : Int) (k : Nat) (h : 1 ≤ pg ∧ pg ≤ 1000000) (hd : d.size ≤ 1000000) (hkb : k ≤ 1000000) (hk : (k : Int) * pg < d.size) : ACalls Try.prog 40 [.string d, .int .i64 k, .int .i64 pg] [] (.string (pgS d pg k)) [] := by
  obtain ⟨h1, h2⟩ := pgS_in h hd hk
  unfold pgS
  obtain ⟨kp, hkp⟩ : ∃ kp, (k : Int) * pg = kp := ⟨_, rfl⟩
  obtain ⟨kq, hkq⟩ : ∃ kq, ((k : Int) + 1) * pg = kq := ⟨_, rfl⟩
  rw [hkp, hkq]
  rw [hkp] at hk h1 h2
  rw [hkq] at h2
  refine acalls_pure Try.func40 rfl rfl rfl ?_
  repeat' first
    | refine st (v := .int .i64 kp) (h := by (rw [← hkp]; apply ok_mul64; rfl; rfl; omega)) ?_
    | refine sd (v := .int .i64 kp) (h := by (rw [← hkp]; apply ok_mul64; rfl; rfl; omega)) ?_
    | refine st (v := .int .i64 kq) (h := by (rw [← hkq]; apply ok_mul64; rfl; rfl; omega)) ?_
    | refine sd (v := .int .i64 kq) (h := by (rw [← hkq]; apply ok_mul64; rfl; rfl; omega)) ?_
    | refine st ?_
    | refine stm ?_
    | refine run_want rfl rfl ?_
    | refine run_unwant rfl rfl ?_
    | refine run_undef rfl rfl ?_
    | refine run_guard1t rfl rfl (by omega) ?_
    | refine run_guard1f rfl rfl (by omega) ?_
    | refine run_guard0t rfl rfl (by omega) ?_
    | refine run_guard0f rfl rfl (by omega) ?_
    | refine run_guard1 rfl rfl (fun h1 => ?_) (fun h1 => ?_)
    | refine run_guard0 rfl rfl (fun h1 => ?_) (fun h1 => ?_)
    | refine run_guard rfl rfl (fun h1 => ?_) (fun h1 => ?_)
    | refine run_nil ?_
    | refine aw_seq ?_
    | refine aw_region (by kernel_rfl) (Nat.le_of_ble_eq_true rfl) ?_
    | refine aw_block ?_
    | refine aw_cond_t rfl ?_
    | refine aw_cond_f rfl ?_
    | refine aw_cond_tp rfl (by omega) ?_
    | refine aw_cond_fp rfl (by omega) ?_
    | refine aw_cond1 rfl (fun h1 => ?_) (fun h1 => ?_)
    | refine aw_cond rfl (fun h1 => ?_) (fun h1 => ?_)
    | refine aw_skip ?_
    | refine aw_exit ?_
    | refine aw_ret ?_
    | refine pp_ret ?_
    | refine pp_normal ?_
  all_goals first
    | rfl
    | (exfalso; omega)
    | (exfalso; simp only [Bool.not_eq_true', Bool.not_eq_false', decide_eq_true_eq, decide_eq_false_iff_not, Bool.not_false, Bool.not_true] at *; omega)
    | (exfalso; simp_all; first | done | omega)
set_option maxHeartbeats 8000000 in
theorem ac_rmake (v : Int) (d : ByteArray) (pg pk : Int) (hd : d.size ≤ 1000000) (e : Int) (he : mkE v d pg pk = e) (N : Nat) (hN : mkN d pg = N) : ACalls Try.prog 13 [.int .i64 v, .string d, .int .i64 pg, .int .i64 pk] [] (.tuple #[if e ≠ 0 then .agg #[.int .i64 0, .int .i64 0, .int .i64 0, .int .i64 0, .slice (some ⟨0, 0, none⟩) 0 0] else .agg #[.int .i64 v, .int .i64 (d.size : Int), .int .i64 pg, .int .i64 pk, .slice (some ⟨0, 0, none⟩) N N], .int .i64 e]) [some ⟨List.map Value.string (if e ≠ 0 then [] else mkL v d pg N), true, 1⟩] := by
  obtain ⟨y, hy⟩ : ∃ y, sizB v pg pk = y := ⟨_, rfl⟩
  have H1 := ac_rsizes v pg pk
  unfold mkE at he
  rw [hy] at H1 he
  cases y
  · rw [if_pos rfl] at he
    subst he
    rw [if_pos (by decide), if_pos (by decide)]
    refine acalls_of_aw Try.func13 rfl rfl ?_
    refine aw_ghost 1 rfl ?_
    repeat' first
      | refine st (h := ok_not_dec2 rfl) ?_
      | refine sd (h := ok_not_dec2 rfl) ?_
      | refine st ?_
      | refine st_call (H1) ?_
      | refine sd_call (H1) ?_
      | refine stm ?_
      | refine run_want rfl rfl ?_
      | refine run_unwant rfl rfl ?_
      | refine run_undef rfl rfl ?_
      | refine run_guard1t rfl rfl (by omega) ?_
      | refine run_guard1f rfl rfl (by omega) ?_
      | refine run_guard0t rfl rfl (by omega) ?_
      | refine run_guard0f rfl rfl (by omega) ?_
      | refine run_guard1 rfl rfl (fun h1 => ?_) (fun h1 => ?_)
      | refine run_guard0 rfl rfl (fun h1 => ?_) (fun h1 => ?_)
      | refine run_guard rfl rfl (fun h1 => ?_) (fun h1 => ?_)
      | refine run_nil ?_
      | refine sd ?_
      | refine sdl ?_
      | refine sdm (n := 1) ?_
      | refine sdm ?_
      | refine sdb ?_
      | refine rund_want rfl rfl ?_
      | refine rund_unwant rfl rfl ?_
      | refine rund_undef rfl rfl ?_
      | refine rund_guard1 rfl rfl (fun h1 => ?_) (fun h1 => ?_)
      | refine rund_guard0 rfl rfl (fun h1 => ?_) (fun h1 => ?_)
      | refine rund_guard rfl rfl (fun h1 => ?_) (fun h1 => ?_)
      | refine rund_nil ?_
      | refine aw_seq ?_
      | refine aw_region (by kernel_rfl) (Nat.le_of_ble_eq_true rfl) ?_
      | refine aw_region_dC (id := 11) [0, 1, 0, 0, 0, 0, 0, 112, 252, 508, 1023, 2047, 4095] 10 (by (repeat constructor)) (by kernel_rfl) (by kernel_rfl) (by kernel_rfl) (by rfl) ?_
      | refine aw_block ?_
      | refine aw_cond_t rfl ?_
      | refine aw_cond_f rfl ?_
      | refine aw_cond_tp rfl (by omega) ?_
      | refine aw_cond_fp rfl (by omega) ?_
      | refine aw_cond1 rfl (fun h1 => ?_) (fun h1 => ?_)
      | refine aw_cond rfl (fun h1 => ?_) (fun h1 => ?_)
      | refine aw_skip ?_
      | refine aw_exit ?_
      | refine aw_ret ?_
      | refine pp_ret ?_
      | refine pp_normal ?_
    all_goals first | (refine pmw_ret _ (renumA [0]) ?_; exact Wk.tupleL (.cons (Wk.aggL (.cons (.refl _) (.cons (.refl _) (.cons (.refl _) (.cons (.refl _) (.cons .nil .nil)))))) (.cons (.refl _) .nil))) | (exfalso; omega) | (exfalso; simp_all; done)
  · rw [if_neg (by simp)] at he
    have hbd := siz_bd hy
    by_cases h0 : d.size = 0
    · rw [if_pos h0] at he
      subst he
      obtain rfl := empty_size.1 h0
      rw [if_pos (by decide), if_pos (by decide)]
      refine acalls_of_aw Try.func13 rfl rfl ?_
      refine aw_ghost 1 rfl ?_
      repeat' first
        | refine st (h := ok_not_dec2 rfl) ?_
        | refine sd (h := ok_not_dec2 rfl) ?_
        | refine st (h := ok_str_eqlT rfl rfl) ?_
        | refine st ?_
        | refine st_call (H1) ?_
        | refine sd_call (H1) ?_
        | refine stm ?_
        | refine run_want rfl rfl ?_
        | refine run_unwant rfl rfl ?_
        | refine run_undef rfl rfl ?_
        | refine run_guard1t rfl rfl (by omega) ?_
        | refine run_guard1f rfl rfl (by omega) ?_
        | refine run_guard0t rfl rfl (by omega) ?_
        | refine run_guard0f rfl rfl (by omega) ?_
        | refine run_guard1 rfl rfl (fun h1 => ?_) (fun h1 => ?_)
        | refine run_guard0 rfl rfl (fun h1 => ?_) (fun h1 => ?_)
        | refine run_guard rfl rfl (fun h1 => ?_) (fun h1 => ?_)
        | refine run_nil ?_
        | refine sd ?_
        | refine sdl ?_
        | refine sdm (n := 1) ?_
        | refine sdm ?_
        | refine sdb ?_
        | refine rund_want rfl rfl ?_
        | refine rund_unwant rfl rfl ?_
        | refine rund_undef rfl rfl ?_
        | refine rund_guard1 rfl rfl (fun h1 => ?_) (fun h1 => ?_)
        | refine rund_guard0 rfl rfl (fun h1 => ?_) (fun h1 => ?_)
        | refine rund_guard rfl rfl (fun h1 => ?_) (fun h1 => ?_)
        | refine rund_nil ?_
        | refine aw_seq ?_
        | refine aw_region (by kernel_rfl) (Nat.le_of_ble_eq_true rfl) ?_
        | refine aw_region_dC (id := 11) [0, 1, 0, 0, 0, 0, 0, 112, 252, 508, 1023, 2047, 4095] 10 (by (repeat constructor)) (by kernel_rfl) (by kernel_rfl) (by kernel_rfl) (by rfl) ?_
        | refine aw_block ?_
        | refine aw_cond_t rfl ?_
        | refine aw_cond_f rfl ?_
        | refine aw_cond_tp rfl (by omega) ?_
        | refine aw_cond_fp rfl (by omega) ?_
        | refine aw_cond1 rfl (fun h1 => ?_) (fun h1 => ?_)
        | refine aw_cond rfl (fun h1 => ?_) (fun h1 => ?_)
        | refine aw_skip ?_
        | refine aw_exit ?_
        | refine aw_ret ?_
        | refine pp_ret ?_
        | refine pp_normal ?_
      all_goals first | (refine pmw_ret _ (renumA [0]) ?_; exact Wk.tupleL (.cons (Wk.aggL (.cons (.refl _) (.cons (.refl _) (.cons (.refl _) (.cons (.refl _) (.cons .nil .nil)))))) (.cons (.refl _) .nil))) | (exfalso; omega) | (exfalso; simp_all; done)
    · rw [if_neg h0] at he
      have hne : d ≠ ⟨#[]⟩ := fun h => h0 (empty_size.2 h)
      obtain ⟨c, hc⟩ : ∃ c, ((d.size : Int) + pg - 1) / pg = c := ⟨_, rfl⟩
      have H2 := ac_parts d.size pg c (by omega) (by omega) hc
      rw [hc] at he
      by_cases h3 : 65536 < d.size ∨ 64 < c
      · rw [if_pos h3] at he
        subst he
        rw [if_pos (by decide), if_pos (by decide)]
        refine acalls_of_aw Try.func13 rfl rfl ?_
        refine aw_ghost 1 rfl ?_
        repeat' first
          | refine st (h := ok_not_dec2 rfl) ?_
          | refine sd (h := ok_not_dec2 rfl) ?_
          | refine st ?_
          | refine st_call (H1) ?_
          | refine st_call (H2) ?_
          | refine sd_call (H1) ?_
          | refine sd_call (H2) ?_
          | refine stm ?_
          | refine run_want rfl rfl ?_
          | refine run_unwant rfl rfl ?_
          | refine run_undef rfl rfl ?_
          | refine run_guard1t rfl rfl (by omega) ?_
          | refine run_guard1f rfl rfl (by omega) ?_
          | refine run_guard0t rfl rfl (by omega) ?_
          | refine run_guard0f rfl rfl (by omega) ?_
          | refine run_guard1 rfl rfl (fun h1 => ?_) (fun h1 => ?_)
          | refine run_guard0 rfl rfl (fun h1 => ?_) (fun h1 => ?_)
          | refine run_guard rfl rfl (fun h1 => ?_) (fun h1 => ?_)
          | refine run_nil ?_
          | refine sd ?_
          | refine sdl ?_
          | refine sdm (n := 1) ?_
          | refine sdm ?_
          | refine sdb ?_
          | refine rund_want rfl rfl ?_
          | refine rund_unwant rfl rfl ?_
          | refine rund_undef rfl rfl ?_
          | refine rund_guard1 rfl rfl (fun h1 => ?_) (fun h1 => ?_)
          | refine rund_guard0 rfl rfl (fun h1 => ?_) (fun h1 => ?_)
          | refine rund_guard rfl rfl (fun h1 => ?_) (fun h1 => ?_)
          | refine rund_nil ?_
          | refine aw_seq ?_
          | refine aw_region (by kernel_rfl) (Nat.le_of_ble_eq_true rfl) ?_
          | refine aw_region_dC (id := 11) [0, 1, 0, 0, 0, 0, 0, 112, 252, 508, 1023, 2047, 4095] 10 (by (repeat constructor)) (by kernel_rfl) (by kernel_rfl) (by kernel_rfl) (by rfl) ?_
          | refine aw_block ?_
          | refine aw_cond_t rfl ?_
          | refine aw_cond_f rfl ?_
          | refine aw_cond_tp rfl (by omega) ?_
          | refine aw_cond_fp rfl (by omega) ?_
          | refine aw_cond1 rfl (fun h1 => ?_) (fun h1 => ?_)
          | refine aw_cond rfl (fun h1 => ?_) (fun h1 => ?_)
          | refine aw_skip ?_
          | refine aw_exit ?_
          | refine aw_ret ?_
          | refine pp_ret ?_
          | refine pp_normal ?_
        all_goals first | (refine pmw_ret _ (renumA [0]) ?_; exact Wk.tupleL (.cons (Wk.aggL (.cons (.refl _) (.cons (.refl _) (.cons (.refl _) (.cons (.refl _) (.cons .nil .nil)))))) (.cons (.refl _) .nil))) | (exfalso; omega) | (exfalso; simp_all; done)
      · rw [if_neg h3] at he
        subst he
        have hlt := fun k => mkN_lt (d := d) (pg := pg) (by omega) k
        have hNc : (N : Int) = c := by
          have h2 : 0 ≤ ((d.size : Int) + pg - 1) / pg := Int.ediv_nonneg (by omega) (by omega)
          rw [← hN, mkN, ← hc]; omega
        rw [hN] at hlt
        have hlen := mkL_len v d pg N
        rw [if_neg (by decide), if_neg (by decide)]
        refine acalls_of_aw Try.func13 rfl rfl ?_
        refine aw_ghost 1 rfl ?_
        repeat' first
          | refine st (h := ok_not_dec2 rfl) ?_
          | refine sd (h := ok_not_dec2 rfl) ?_
          | refine st (h := ok_str_eql rfl rfl) ?_
          | refine st ?_
          | refine st_call (H1) ?_
          | refine st_call (H2) ?_
          | refine sd_call (H1) ?_
          | refine sd_call (H2) ?_
          | refine stm ?_
          | refine run_want rfl rfl ?_
          | refine run_unwant rfl rfl ?_
          | refine run_undef rfl rfl ?_
          | refine run_guard1t rfl rfl (by omega) ?_
          | refine run_guard1f rfl rfl (by omega) ?_
          | refine run_guard0t rfl rfl (by omega) ?_
          | refine run_guard0f rfl rfl (by omega) ?_
          | refine run_guard1 rfl rfl (fun h1 => ?_) (fun h1 => ?_)
          | refine run_guard0 rfl rfl (fun h1 => ?_) (fun h1 => ?_)
          | refine run_guard rfl rfl (fun h1 => ?_) (fun h1 => ?_)
          | refine run_nil ?_
          | refine sd ?_
          | refine sdl ?_
          | refine sdm (n := 1) ?_
          | refine sdm ?_
          | refine sdb ?_
          | refine rund_want rfl rfl ?_
          | refine rund_unwant rfl rfl ?_
          | refine rund_undef rfl rfl ?_
          | refine rund_guard1 rfl rfl (fun h1 => ?_) (fun h1 => ?_)
          | refine rund_guard0 rfl rfl (fun h1 => ?_) (fun h1 => ?_)
          | refine rund_guard rfl rfl (fun h1 => ?_) (fun h1 => ?_)
          | refine rund_nil ?_
          | refine aw_seq ?_
          | refine aw_region (by kernel_rfl) (Nat.le_of_ble_eq_true rfl) ?_
          | refine aw_region_dC (id := 11) [0, 1, 0, 0, 0, 0, 0, 112, 252, 508, 1023, 2047, 4095] 10 (by (repeat constructor)) (by kernel_rfl) (by kernel_rfl) (by kernel_rfl) (by rfl) ?_
          | refine aw_block ?_
          | refine aw_cond_t rfl ?_
          | refine aw_cond_f rfl ?_
          | refine aw_cond_tp rfl (by omega) ?_
          | refine aw_cond_fp rfl (by omega) ?_
          | refine aw_cond1 rfl (fun h1 => ?_) (fun h1 => ?_)
          | refine aw_cond rfl (fun h1 => ?_) (fun h1 => ?_)
          | refine aw_skip ?_
          | refine aw_exit ?_
          | refine aw_ret ?_
          | refine pp_ret ?_
          | refine pp_normal ?_
        all_goals try (exfalso; first | omega | (simp_all; done))
        refine aw_loopg
          (S := fun y : Og => [(0, .int .i64 v), (1, .string d), (2, .int .i64 pg), (8, .pointer (some ⟨0, 0, none⟩)), (10, .pointer (some ⟨1, 0, none⟩)), (11, .int .i64 y.i)])
          (B := fun y : Og => [some ⟨[.int .i64 0, .int .i64 0, .int .i64 0, .int .i64 0, .slice none 0 0], true, 1⟩, some ⟨[.int .i64 v, .int .i64 (d.size : Int), .int .i64 pg, .int .i64 pk, .slice (some ⟨2, 0, none⟩) y.i y.i], true, 1⟩, some ⟨List.map Value.string (mkL v d pg y.i), true, 1⟩])
          (R := fun y : Og => y.i ≤ N)
          (μ := fun y : Og => N - y.i) ⟨0⟩ (fitsD [1, 2, 0]) (Nat.zero_le _) ?_
        rintro ⟨i⟩ g1
        dsimp only at *
        by_cases hi : i < N
        · have hk := (hlt i).1 hi
          have H3 := ac_pageS d pg i (by omega) hd (by omega) hk
          have hxs : (pgS d pg i).size ≤ d.size := by
            unfold pgS; rw [ByteArray.size_extract]; omega
          obtain ⟨S, hS⟩ : ∃ S, dgS v i (pgS d pg i) = S := ⟨_, rfl⟩
          have H4 := ac_rdigest v i (pgS d pg i) (by omega) S hS
          have hl := mkL_len v d pg i
          have hu : List.map Value.string (mkL v d pg (i + 1)) = List.map Value.string (mkL v d pg i) ++ [.string S] := by rw [mkL_succ, hS]; simp
          repeat' first
            | refine st (h := ok_not_dec2 rfl) ?_
            | refine sd (h := ok_not_dec2 rfl) ?_
            | refine sdb (n := 1) ?_ (h := by (apply ok_append (cs := List.map Value.string (mkL v d pg (i + 1))) (olds := List.map Value.string (mkL v d pg i)); rfl; rfl; rfl; rfl; rfl; rfl; (focus first | (apply Src.slc; rfl; exact Ty.eq; rfl; exact Nat.le_of_ble_eq_true rfl; exact TakeR.eq (by ((repeat constructor); first | done | fail)); rfl; rfl; first | done | fail)); (focus (simp [hl])); (focus (apply take_full; simp [hl])); (focus exact hu.symm); omega; (focus ((repeat constructor); first | done | fail))))
            | refine st ?_
            | refine st_call (H2) ?_
            | refine st_call (H3) ?_
            | refine st_call (H4) ?_
            | refine sd_call (H2) ?_
            | refine sd_call (H3) ?_
            | refine sd_call (H4) ?_
            | refine stm ?_
            | refine run_want rfl rfl ?_
            | refine run_unwant rfl rfl ?_
            | refine run_undef rfl rfl ?_
            | refine run_guard1t rfl rfl (by omega) ?_
            | refine run_guard1f rfl rfl (by omega) ?_
            | refine run_guard0t rfl rfl (by omega) ?_
            | refine run_guard0f rfl rfl (by omega) ?_
            | refine run_guard1 rfl rfl (fun h1 => ?_) (fun h1 => ?_)
            | refine run_guard0 rfl rfl (fun h1 => ?_) (fun h1 => ?_)
            | refine run_guard rfl rfl (fun h1 => ?_) (fun h1 => ?_)
            | refine run_nil ?_
            | refine sd ?_
            | refine sdl ?_
            | refine sdm (n := 1) ?_
            | refine sdm ?_
            | refine sdb ?_
            | refine rund_want rfl rfl ?_
            | refine rund_unwant rfl rfl ?_
            | refine rund_undef rfl rfl ?_
            | refine rund_guard1 rfl rfl (fun h1 => ?_) (fun h1 => ?_)
            | refine rund_guard0 rfl rfl (fun h1 => ?_) (fun h1 => ?_)
            | refine rund_guard rfl rfl (fun h1 => ?_) (fun h1 => ?_)
            | refine rund_nil ?_
            | refine aw_seq ?_
            | refine aw_region (by kernel_rfl) (Nat.le_of_ble_eq_true rfl) ?_
            | refine aw_region_dC (id := 11) [0, 1, 0, 0, 0, 0, 0, 112, 252, 508, 1023, 2047, 4095] 10 (by (repeat constructor)) (by kernel_rfl) (by kernel_rfl) (by kernel_rfl) (by rfl) ?_
            | refine aw_block ?_
            | refine aw_cond_t rfl ?_
            | refine aw_cond_f rfl ?_
            | refine aw_cond_tp rfl (by omega) ?_
            | refine aw_cond_fp rfl (by omega) ?_
            | refine aw_cond1 rfl (fun h1 => ?_) (fun h1 => ?_)
            | refine aw_cond rfl (fun h1 => ?_) (fun h1 => ?_)
            | refine aw_skip ?_
            | refine aw_exit ?_
            | refine aw_ret ?_
            | refine pp_ret ?_
            | refine pp_normal ?_
          all_goals first
            | exact Exists.intro ⟨i + 1⟩ ⟨fitsD [0, 1, 4], hi, by dsimp only; omega⟩
            | (exfalso; omega)
        · obtain rfl : i = N := by omega
          repeat' first
            | refine st (h := ok_not_dec2 rfl) ?_
            | refine sd (h := ok_not_dec2 rfl) ?_
            | refine st ?_
            | refine st_call (H2) ?_
            | refine sd_call (H2) ?_
            | refine stm ?_
            | refine run_want rfl rfl ?_
            | refine run_unwant rfl rfl ?_
            | refine run_undef rfl rfl ?_
            | refine run_guard1t rfl rfl (by omega) ?_
            | refine run_guard1f rfl rfl (by omega) ?_
            | refine run_guard0t rfl rfl (by omega) ?_
            | refine run_guard0f rfl rfl (by omega) ?_
            | refine run_guard1 rfl rfl (fun h1 => ?_) (fun h1 => ?_)
            | refine run_guard0 rfl rfl (fun h1 => ?_) (fun h1 => ?_)
            | refine run_guard rfl rfl (fun h1 => ?_) (fun h1 => ?_)
            | refine run_nil ?_
            | refine sd ?_
            | refine sdl ?_
            | refine sdm (n := 1) ?_
            | refine sdm ?_
            | refine sdb ?_
            | refine rund_want rfl rfl ?_
            | refine rund_unwant rfl rfl ?_
            | refine rund_undef rfl rfl ?_
            | refine rund_guard1 rfl rfl (fun h1 => ?_) (fun h1 => ?_)
            | refine rund_guard0 rfl rfl (fun h1 => ?_) (fun h1 => ?_)
            | refine rund_guard rfl rfl (fun h1 => ?_) (fun h1 => ?_)
            | refine rund_nil ?_
            | refine aw_seq ?_
            | refine aw_region (by kernel_rfl) (Nat.le_of_ble_eq_true rfl) ?_
            | refine aw_region_dC (id := 11) [0, 1, 0, 0, 0, 0, 0, 112, 252, 508, 1023, 2047, 4095] 10 (by (repeat constructor)) (by kernel_rfl) (by kernel_rfl) (by kernel_rfl) (by rfl) ?_
            | refine aw_block ?_
            | refine aw_cond_t rfl ?_
            | refine aw_cond_f rfl ?_
            | refine aw_cond_tp rfl (by omega) ?_
            | refine aw_cond_fp rfl (by omega) ?_
            | refine aw_cond1 rfl (fun h1 => ?_) (fun h1 => ?_)
            | refine aw_cond rfl (fun h1 => ?_) (fun h1 => ?_)
            | refine aw_skip ?_
            | refine aw_exit ?_
            | refine aw_ret ?_
            | refine pp_ret ?_
            | refine pp_normal ?_
          all_goals first | exact pm_ret _ (renumD [2]) rfl | (exfalso; omega)
end Go.Proofs.Ytpofbjmmlommoaa
