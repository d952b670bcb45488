/- Image: Decode. -/
import Derived.Test.YtpofbjmmlommoaaS9
set_option linter.unusedVariables false
set_option linter.unusedSimpArgs false
namespace Go.Proofs.Ytpofbjmmlommoaa
open Go Av
set_option maxRecDepth 20000
/-- The first parts of 32 bytes. -/
def clL (d : ByteArray) (N : Nat) : List ByteArray := (List.range N).map fun i : Nat => pgS (d.extract 9 d.size) 32 i
theorem clL_len (d : ByteArray) (N : Nat) : (clL d N).length = N := by simp [clL]
theorem clL_succ (d : ByteArray) (N : Nat) : clL d (N + 1) = clL d N ++ [pgS (d.extract 9 d.size) 32 N] := by simp [clL, List.range_succ]
theorem clL_fin (d : ByteArray) (N : Nat) : (List.finRange N).map (fun x : Fin N => pgS (d.extract 9 d.size) 32 x.val) = clL d N := by
  apply List.ext_getElem
  · simp [clL]
  · intro i h1 h2
    simp [clL]
def deN (d : ByteArray) : Nat := (d.size - 9) / 32
def deC (d : ByteArray) : Int := chkM (valS (d.extract 0 2)) (valS (d.extract 2 6)) (valS (d.extract 6 8)) (valS (d.extract 8 9)) (clL d (deN d))
/-- The error of Decode. -/
def deE (d : ByteArray) : Int := if d.size < 9 ∨ (d.size - 9) % 32 ≠ 0 then 10 else if deC d ≠ 0 then 10 else 0
theorem deC_many {d : ByteArray} (h : 2057 < d.size) (h2 : (d.size - 9) % 32 = 0) : deC d ≠ 0 := fun hc => by
  obtain ⟨_, _, h3, _⟩ := chk_ok hc
  rw [clL_len, deN] at h3
  omega
theorem dd_size (d : ByteArray) : (d.extract 9 d.size).size = d.size - 9 := by rw [ByteArray.size_extract]; omega
theorem pg_ref {d : ByteArray} {i : Nat} (h : 9 + 32 * i + 32 ≤ d.size) : pgS (d.extract 9 d.size) 32 i = d.extract (9 + 32 * i) (9 + 32 * i + 32) := by
  unfold pgS
  rw [dd_size]
  apply ByteArray.ext
  rw [ByteArray.data_extract, ByteArray.data_extract, ByteArray.data_extract, Array.extract_extract]
  congr 1 <;> omega
set_option maxHeartbeats 8000000 in
theorem ac_decode (d : ByteArray) (hd : d.size ≤ 1000000) (e : Int) (he : deE d = e) (N : Nat) (hN : deN d = N) (v sz pg pk : Int) (hv : valS (d.extract 0 2) = v) (hsz : valS (d.extract 2 6) = sz) (hpg : valS (d.extract 6 8) = pg) (hpk : valS (d.extract 8 9) = pk) : ACalls Try.prog 30 [.string d] [] (.tuple #[if e ≠ 0 then .agg #[.int .i64 0, .int .i64 0, .int .i64 0, .int .i64 0, .slice (some ⟨0, 0, none⟩) 0 0] else .agg #[.int .i64 v, .int .i64 sz, .int .i64 pg, .int .i64 pk, .slice (some ⟨0, 0, none⟩) N N], .int .i64 e]) [some ⟨List.map Value.string (if e ≠ 0 then [] else clL d N), true, 1⟩] := by
  unfold deE at he
  by_cases h1 : d.size < 9 ∨ (d.size - 9) % 32 ≠ 0
  · rw [if_pos h1] at he
    subst he
    rw [if_pos (by decide), if_pos (by decide)]
    have h1' : d.size < 9 ∨ ((d.size : Int) - 9) % 32 ≠ 0 := by omega
    refine acalls_of_aw Try.func30 rfl rfl ?_
    refine aw_ghost 1 rfl ?_
    repeat' first
      | refine st ?_
      | refine stm ?_
      | refine run_want rfl rfl ?_
      | refine run_unwant rfl rfl ?_
      | refine run_undef rfl rfl ?_
      | refine run_guard1t rfl rfl (by omega) ?_
      | refine run_guard1f rfl rfl (by omega) ?_
      | refine run_guard0t rfl rfl (by omega) ?_
      | refine run_guard0f rfl rfl (by omega) ?_
      | refine run_guard1 rfl rfl (fun h1 => ?_) (fun h1 => ?_)
      | refine run_guard0 rfl rfl (fun h1 => ?_) (fun h1 => ?_)
      | refine run_guard rfl rfl (fun h1 => ?_) (fun h1 => ?_)
      | refine run_nil ?_
      | refine sd ?_
      | refine sdl ?_
      | refine sdm (n := 1) ?_
      | refine sdm ?_
      | refine sdb ?_
      | refine rund_want rfl rfl ?_
      | refine rund_unwant rfl rfl ?_
      | refine rund_undef rfl rfl ?_
      | refine rund_guard1 rfl rfl (fun h1 => ?_) (fun h1 => ?_)
      | refine rund_guard0 rfl rfl (fun h1 => ?_) (fun h1 => ?_)
      | refine rund_guard rfl rfl (fun h1 => ?_) (fun h1 => ?_)
      | refine rund_nil ?_
      | refine aw_seq ?_
      | refine aw_region (by kernel_rfl) (Nat.le_of_ble_eq_true rfl) ?_
      | refine aw_region_dC (id := 3) [0, 1, 3, 0, 8, 31, 0, 64, 255, 0, 512, 2047, 4095, 0, 16383] 14 (by (repeat constructor)) (by kernel_rfl) (by kernel_rfl) (by kernel_rfl) (by rfl) ?_
      | refine aw_region_dC (id := 6) [0, 1, 0, 4, 12, 31, 63, 127] 5 (by (repeat constructor)) (by kernel_rfl) (by kernel_rfl) (by kernel_rfl) (by rfl) ?_
      | refine aw_block ?_
      | refine aw_cond_t rfl ?_
      | refine aw_cond_f rfl ?_
      | refine aw_cond_tp rfl (by omega) ?_
      | refine aw_cond_fp rfl (by omega) ?_
      | refine aw_cond1 rfl (fun h1 => ?_) (fun h1 => ?_)
      | refine aw_cond rfl (fun h1 => ?_) (fun h1 => ?_)
      | refine aw_skip ?_
      | refine aw_exit ?_
      | refine aw_ret ?_
      | refine pp_ret ?_
      | refine pp_normal ?_
    all_goals first | (refine pmw_ret _ (renumA [0]) ?_; exact Wk.tupleL (.cons (Wk.aggL (.cons (.refl _) (.cons (.refl _) (.cons (.refl _) (.cons (.refl _) (.cons .nil .nil)))))) (.cons (.refl _) .nil))) | (exfalso; omega) | (exfalso; simp_all; done)
  · rw [if_neg h1] at he
    have h1' : ((d.size : Int) - 9) % 32 = 0 := by omega
    have hN2 : d.size = 9 + 32 * N := by rw [← hN, deN]; omega
    have hlen := clL_len d N
    by_cases h3 : 2057 < d.size
    · rw [if_pos (deC_many h3 (by omega))] at he
      subst he
      rw [if_pos (by decide), if_pos (by decide)]
      refine acalls_of_aw Try.func30 rfl rfl ?_
      refine aw_ghost 1 rfl ?_
      repeat' first
        | refine st ?_
        | refine stm ?_
        | refine run_want rfl rfl ?_
        | refine run_unwant rfl rfl ?_
        | refine run_undef rfl rfl ?_
        | refine run_guard1t rfl rfl (by omega) ?_
        | refine run_guard1f rfl rfl (by omega) ?_
        | refine run_guard0t rfl rfl (by omega) ?_
        | refine run_guard0f rfl rfl (by omega) ?_
        | refine run_guard1 rfl rfl (fun h1 => ?_) (fun h1 => ?_)
        | refine run_guard0 rfl rfl (fun h1 => ?_) (fun h1 => ?_)
        | refine run_guard rfl rfl (fun h1 => ?_) (fun h1 => ?_)
        | refine run_nil ?_
        | refine sd ?_
        | refine sdl ?_
        | refine sdm (n := 1) ?_
        | refine sdm ?_
        | refine sdb ?_
        | refine rund_want rfl rfl ?_
        | refine rund_unwant rfl rfl ?_
        | refine rund_undef rfl rfl ?_
        | refine rund_guard1 rfl rfl (fun h1 => ?_) (fun h1 => ?_)
        | refine rund_guard0 rfl rfl (fun h1 => ?_) (fun h1 => ?_)
        | refine rund_guard rfl rfl (fun h1 => ?_) (fun h1 => ?_)
        | refine rund_nil ?_
        | refine aw_seq ?_
        | refine aw_region (by kernel_rfl) (Nat.le_of_ble_eq_true rfl) ?_
        | refine aw_region_dC (id := 3) [0, 1, 3, 0, 8, 31, 0, 64, 255, 0, 512, 2047, 4095, 0, 16383] 14 (by (repeat constructor)) (by kernel_rfl) (by kernel_rfl) (by kernel_rfl) (by rfl) ?_
        | refine aw_region_dC (id := 6) [0, 1, 0, 4, 12, 31, 63, 127] 5 (by (repeat constructor)) (by kernel_rfl) (by kernel_rfl) (by kernel_rfl) (by rfl) ?_
        | refine aw_block ?_
        | refine aw_cond_t rfl ?_
        | refine aw_cond_f rfl ?_
        | refine aw_cond_tp rfl (by omega) ?_
        | refine aw_cond_fp rfl (by omega) ?_
        | refine aw_cond1 rfl (fun h1 => ?_) (fun h1 => ?_)
        | refine aw_cond rfl (fun h1 => ?_) (fun h1 => ?_)
        | refine aw_skip ?_
        | refine aw_exit ?_
        | refine aw_ret ?_
        | refine pp_ret ?_
        | refine pp_normal ?_
      all_goals first | (refine pmw_ret _ (renumA [0]) ?_; exact Wk.tupleL (.cons (Wk.aggL (.cons (.refl _) (.cons (.refl _) (.cons (.refl _) (.cons (.refl _) (.cons .nil .nil)))))) (.cons (.refl _) .nil))) | (exfalso; omega) | (exfalso; simp_all; done)
    have s1 : (d.extract 0 2).size = 2 := by rw [ByteArray.size_extract]; omega
    have s2 : (d.extract 2 6).size = 4 := by rw [ByteArray.size_extract]; omega
    have s3 : (d.extract 6 8).size = 2 := by rw [ByteArray.size_extract]; omega
    have s4 : (d.extract 8 9).size = 1 := by rw [ByteArray.size_extract]; omega
    have V1 := ac_value (d.extract 0 2) (by omega) v hv
    have V2 := ac_value (d.extract 2 6) (by omega) sz hsz
    have V3 := ac_value (d.extract 6 8) (by omega) pg hpg
    have V4 := ac_value (d.extract 8 9) (by omega) pk hpk
    obtain ⟨c, hc⟩ : ∃ c, deC d = c := ⟨_, rfl⟩
    rw [hc] at he
    have HC := ac_mcheck v sz pg pk (clL d N) N hlen (by omega) c (by rw [← hc, deC, hv, hsz, hpg, hpk, hN])
    have hds := dd_size d
    by_cases hc0 : c = 0
    · subst hc0
      rw [if_neg (by decide)] at he
      subst he
      rw [if_neg (by decide), if_neg (by decide)]
      clear hv hsz hpg hpk hc
      refine acalls_of_aw Try.func30 rfl rfl ?_
      refine aw_ghost 1 rfl ?_
      repeat' first
        | refine st ?_
        | refine st_call (V1) ?_
        | refine st_call (V2) ?_
        | refine st_call (V3) ?_
        | refine st_call (V4) ?_
        | refine sd_call (V1) ?_
        | refine sd_call (V2) ?_
        | refine sd_call (V3) ?_
        | refine sd_call (V4) ?_
        | refine stMW [] (ac_pages (d.extract 9 d.size) 32) ?_
        | refine stm ?_
        | refine run_want rfl rfl ?_
        | refine run_unwant rfl rfl ?_
        | refine run_undef rfl rfl ?_
        | refine run_guard1t rfl rfl (by omega) ?_
        | refine run_guard1f rfl rfl (by omega) ?_
        | refine run_guard0t rfl rfl (by omega) ?_
        | refine run_guard0f rfl rfl (by omega) ?_
        | refine run_guard1 rfl rfl (fun h1 => ?_) (fun h1 => ?_)
        | refine run_guard0 rfl rfl (fun h1 => ?_) (fun h1 => ?_)
        | refine run_guard rfl rfl (fun h1 => ?_) (fun h1 => ?_)
        | refine run_nil ?_
        | refine sd ?_
        | refine sdl ?_
        | refine sdm (n := 1) ?_
        | refine sdm ?_
        | refine sdb ?_
        | refine rund_want rfl rfl ?_
        | refine rund_unwant rfl rfl ?_
        | refine rund_undef rfl rfl ?_
        | refine rund_guard1 rfl rfl (fun h1 => ?_) (fun h1 => ?_)
        | refine rund_guard0 rfl rfl (fun h1 => ?_) (fun h1 => ?_)
        | refine rund_guard rfl rfl (fun h1 => ?_) (fun h1 => ?_)
        | refine rund_nil ?_
        | refine aw_seq ?_
        | refine aw_region (by kernel_rfl) (Nat.le_of_ble_eq_true rfl) ?_
        | refine aw_region_dC (id := 3) [0, 1, 3, 0, 8, 31, 0, 64, 255, 0, 512, 2047, 4095, 0, 16383] 14 (by (repeat constructor)) (by kernel_rfl) (by kernel_rfl) (by kernel_rfl) (by rfl) ?_
        | refine aw_region_dC (id := 6) [0, 1, 0, 4, 12, 31, 63, 127] 5 (by (repeat constructor)) (by kernel_rfl) (by kernel_rfl) (by kernel_rfl) (by rfl) ?_
        | refine aw_block ?_
        | refine aw_cond_t rfl ?_
        | refine aw_cond_f rfl ?_
        | refine aw_cond_tp rfl (by omega) ?_
        | refine aw_cond_fp rfl (by omega) ?_
        | refine aw_cond1 rfl (fun h1 => ?_) (fun h1 => ?_)
        | refine aw_cond rfl (fun h1 => ?_) (fun h1 => ?_)
        | refine aw_skip ?_
        | refine aw_exit ?_
        | refine aw_ret ?_
        | refine pp_ret ?_
        | refine pp_normal ?_
      all_goals try (exfalso; first | omega | (simp_all; done))
      refine aw_fits (σh := [(2, .pointer (some ⟨0, 0, none⟩)), (4, .pointer (some ⟨1, 0, none⟩)), (38, .func (.func 55) #[] #[.pointer (some ⟨3, 0, none⟩), .pointer (some ⟨2, 0, none⟩)])]) (mh := (fun pre : List (Fin N) => [some ⟨[.int .i64 0, .int .i64 0, .int .i64 0, .int .i64 0, .slice none 0 0], true, 1⟩, some ⟨[.int .i64 v, .int .i64 sz, .int .i64 pg, .int .i64 pk, .slice (some ⟨4, 0, none⟩) pre.length pre.length], true, 1⟩, some ⟨[.string (d.extract 9 d.size)], true, 1⟩, some ⟨[.int .i64 32], true, 1⟩, some ⟨List.map Value.string (pre.map (fun x : Fin N => pgS (d.extract 9 d.size) 32 x.val)), true, 1⟩]) []) (fitsD [1, 2, 3, 4, 0]) ?_
      refine aw_rangeFunc (gf := 55) (cs := [.int .i64 32, .string (d.extract 9 d.size)]) (N := N) (encs := pgEn (d.extract 9 d.size) 32 N) 4 [3, 2] (fun pre : List (Fin N) => [some ⟨[.int .i64 0, .int .i64 0, .int .i64 0, .int .i64 0, .slice none 0 0], true, 1⟩, some ⟨[.int .i64 v, .int .i64 sz, .int .i64 pg, .int .i64 pk, .slice (some ⟨4, 0, none⟩) pre.length pre.length], true, 1⟩, some ⟨[.string (d.extract 9 d.size)], true, 1⟩, some ⟨[.int .i64 32], true, 1⟩, some ⟨List.map Value.string (pre.map (fun x : Fin N => pgS (d.extract 9 d.size) 32 x.val)), true, 1⟩]) (fun _ => True) (fun x : Fin N => [(4, .pointer (some ⟨1, 0, none⟩)), (6, .string (pgS (d.extract 9 d.size) 32 x.val))]) (fun _ _ => False)
        (it_pages 32 (d.extract 9 d.size) N (by omega) (by omega) (fun k => by omega) (by omega)) rfl trivial (Nat.zero_le _) (by intro c hc; simp at hc; rcases hc with rfl | rfl <;> rfl) rfl (by decide) rfl (fun _ => rfl) rfl rfl (by decide) ?_ ?_ ?_ ?_ ?_ ?_ ?_
      · intro x
        refine ⟨rfl, fun u hu => ?_⟩
        simp [pgEn] at hu
        rcases hu with rfl | rfl <;> rfl
      · intro pre
        refine ⟨by simp, noMap_of rfl, fun i id c h1 h2 => ?_⟩
        match i, h1, h2 with
        | 0, h1, h2 => cases h1; cases h2; exact ⟨_, _, rfl⟩
        | 1, h1, h2 => cases h1; cases h2; exact ⟨_, _, rfl⟩
      · exact fun _ _ h => h.elim
      · intro pre x
        repeat' first
          | refine st ?_
          | refine stm ?_
          | refine run_want rfl rfl ?_
          | refine run_unwant rfl rfl ?_
          | refine run_undef rfl rfl ?_
          | refine run_guard1t rfl rfl (by omega) ?_
          | refine run_guard1f rfl rfl (by omega) ?_
          | refine run_guard0t rfl rfl (by omega) ?_
          | refine run_guard0f rfl rfl (by omega) ?_
          | refine run_guard1 rfl rfl (fun h1 => ?_) (fun h1 => ?_)
          | refine run_guard0 rfl rfl (fun h1 => ?_) (fun h1 => ?_)
          | refine run_guard rfl rfl (fun h1 => ?_) (fun h1 => ?_)
          | refine run_nil ?_
          | refine sd ?_
          | refine sdl ?_
          | refine sdm (n := 1) ?_
          | refine sdm ?_
          | refine sdb ?_
          | refine rund_want rfl rfl ?_
          | refine rund_unwant rfl rfl ?_
          | refine rund_undef rfl rfl ?_
          | refine rund_guard1 rfl rfl (fun h1 => ?_) (fun h1 => ?_)
          | refine rund_guard0 rfl rfl (fun h1 => ?_) (fun h1 => ?_)
          | refine rund_guard rfl rfl (fun h1 => ?_) (fun h1 => ?_)
          | refine rund_nil ?_
          | refine aw_seq ?_
          | refine aw_region (by kernel_rfl) (Nat.le_of_ble_eq_true rfl) ?_
          | refine aw_region_dC (id := 3) [0, 1, 3, 0, 8, 31, 0, 64, 255, 0, 512, 2047, 4095, 0, 16383] 14 (by (repeat constructor)) (by kernel_rfl) (by kernel_rfl) (by kernel_rfl) (by rfl) ?_
          | refine aw_region_dC (id := 6) [0, 1, 0, 4, 12, 31, 63, 127] 5 (by (repeat constructor)) (by kernel_rfl) (by kernel_rfl) (by kernel_rfl) (by rfl) ?_
          | refine aw_block ?_
          | refine aw_cond_t rfl ?_
          | refine aw_cond_f rfl ?_
          | refine aw_cond_tp rfl (by omega) ?_
          | refine aw_cond_fp rfl (by omega) ?_
          | refine aw_cond1 rfl (fun h1 => ?_) (fun h1 => ?_)
          | refine aw_cond rfl (fun h1 => ?_) (fun h1 => ?_)
          | refine aw_skip ?_
          | refine aw_exit ?_
          | refine aw_ret ?_
          | refine pp_ret ?_
          | refine pp_normal ?_
        all_goals exact ⟨rfl, fitsD [0, 1, 2, 3, 4]⟩
      · intro pre x _ hpl
        have hxs : (pgS (d.extract 9 d.size) 32 x.val).size ≤ d.size := by
          unfold pgS; rw [ByteArray.size_extract]; omega
        have H3 := ac_clone (pgS (d.extract 9 d.size) 32 x.val) (by omega)
        have hu : List.map Value.string (List.map (fun x : Fin N => pgS (d.extract 9 d.size) 32 x.val) (pre ++ [x])) = List.map Value.string (List.map (fun x : Fin N => pgS (d.extract 9 d.size) 32 x.val) pre) ++ [.string (pgS (d.extract 9 d.size) 32 x.val)] := by simp
        repeat' first
          | refine sdb (n := 1) ?_ (h := by (apply ok_append (cs := List.map Value.string (List.map (fun x : Fin N => pgS (d.extract 9 d.size) 32 x.val) (pre ++ [x]))) (olds := List.map Value.string (List.map (fun x : Fin N => pgS (d.extract 9 d.size) 32 x.val) pre)); rfl; rfl; rfl; rfl; rfl; rfl; (focus first | (apply Src.slc; rfl; exact Ty.eq; rfl; exact Nat.le_of_ble_eq_true rfl; exact TakeR.eq (by ((repeat constructor); first | done | fail)); rfl; rfl; first | done | fail)); (focus simp); (focus (apply take_full; simp)); (focus exact hu.symm); omega; (focus ((repeat constructor); first | done | fail))))
          | refine st ?_
          | refine st_call (H3) ?_
          | refine sd_call (H3) ?_
          | refine stm ?_
          | refine run_want rfl rfl ?_
          | refine run_unwant rfl rfl ?_
          | refine run_undef rfl rfl ?_
          | refine run_guard1t rfl rfl (by omega) ?_
          | refine run_guard1f rfl rfl (by omega) ?_
          | refine run_guard0t rfl rfl (by omega) ?_
          | refine run_guard0f rfl rfl (by omega) ?_
          | refine run_guard1 rfl rfl (fun h1 => ?_) (fun h1 => ?_)
          | refine run_guard0 rfl rfl (fun h1 => ?_) (fun h1 => ?_)
          | refine run_guard rfl rfl (fun h1 => ?_) (fun h1 => ?_)
          | refine run_nil ?_
          | refine sd ?_
          | refine sdl ?_
          | refine sdm (n := 1) ?_
          | refine sdm ?_
          | refine sdb ?_
          | refine rund_want rfl rfl ?_
          | refine rund_unwant rfl rfl ?_
          | refine rund_undef rfl rfl ?_
          | refine rund_guard1 rfl rfl (fun h1 => ?_) (fun h1 => ?_)
          | refine rund_guard0 rfl rfl (fun h1 => ?_) (fun h1 => ?_)
          | refine rund_guard rfl rfl (fun h1 => ?_) (fun h1 => ?_)
          | refine rund_nil ?_
          | refine aw_seq ?_
          | refine aw_region (by kernel_rfl) (Nat.le_of_ble_eq_true rfl) ?_
          | refine aw_region_dC (id := 3) [0, 1, 3, 0, 8, 31, 0, 64, 255, 0, 512, 2047, 4095, 0, 16383] 14 (by (repeat constructor)) (by kernel_rfl) (by kernel_rfl) (by kernel_rfl) (by rfl) ?_
          | refine aw_region_dC (id := 6) [0, 1, 0, 4, 12, 31, 63, 127] 5 (by (repeat constructor)) (by kernel_rfl) (by kernel_rfl) (by kernel_rfl) (by rfl) ?_
          | refine aw_block ?_
          | refine aw_cond_t rfl ?_
          | refine aw_cond_f rfl ?_
          | refine aw_cond_tp rfl (by omega) ?_
          | refine aw_cond_fp rfl (by omega) ?_
          | refine aw_cond1 rfl (fun h1 => ?_) (fun h1 => ?_)
          | refine aw_cond rfl (fun h1 => ?_) (fun h1 => ?_)
          | refine aw_skip ?_
          | refine aw_exit ?_
          | refine aw_ret ?_
          | refine pp_ret ?_
          | refine pp_normal ?_
        all_goals first
          | exact .inl ⟨rfl, by rw [List.length_append]; exact fitsD [0, 1, 2, 3, 6], trivial⟩
          | (exfalso; omega)
      · intro _
        rw [List.length_finRange, clL_fin]
        repeat' first
          | refine st ?_
          | refine stRW [4] HC ?_
          | refine sdRW [4] HC ?_
          | refine stm ?_
          | refine run_want rfl rfl ?_
          | refine run_unwant rfl rfl ?_
          | refine run_undef rfl rfl ?_
          | refine run_guard1t rfl rfl (by omega) ?_
          | refine run_guard1f rfl rfl (by omega) ?_
          | refine run_guard0t rfl rfl (by omega) ?_
          | refine run_guard0f rfl rfl (by omega) ?_
          | refine run_guard1 rfl rfl (fun h1 => ?_) (fun h1 => ?_)
          | refine run_guard0 rfl rfl (fun h1 => ?_) (fun h1 => ?_)
          | refine run_guard rfl rfl (fun h1 => ?_) (fun h1 => ?_)
          | refine run_nil ?_
          | refine sd ?_
          | refine sdl ?_
          | refine sdm (n := 1) ?_
          | refine sdm ?_
          | refine sdb ?_
          | refine rund_want rfl rfl ?_
          | refine rund_unwant rfl rfl ?_
          | refine rund_undef rfl rfl ?_
          | refine rund_guard1 rfl rfl (fun h1 => ?_) (fun h1 => ?_)
          | refine rund_guard0 rfl rfl (fun h1 => ?_) (fun h1 => ?_)
          | refine rund_guard rfl rfl (fun h1 => ?_) (fun h1 => ?_)
          | refine rund_nil ?_
          | refine aw_seq ?_
          | refine aw_region (by kernel_rfl) (Nat.le_of_ble_eq_true rfl) ?_
          | refine aw_region_dC (id := 3) [0, 1, 3, 0, 8, 31, 0, 64, 255, 0, 512, 2047, 4095, 0, 16383] 14 (by (repeat constructor)) (by kernel_rfl) (by kernel_rfl) (by kernel_rfl) (by rfl) ?_
          | refine aw_region_dC (id := 6) [0, 1, 0, 4, 12, 31, 63, 127] 5 (by (repeat constructor)) (by kernel_rfl) (by kernel_rfl) (by kernel_rfl) (by rfl) ?_
          | refine aw_block ?_
          | refine aw_cond_t rfl ?_
          | refine aw_cond_f rfl ?_
          | refine aw_cond_tp rfl (by omega) ?_
          | refine aw_cond_fp rfl (by omega) ?_
          | refine aw_cond1 rfl (fun h1 => ?_) (fun h1 => ?_)
          | refine aw_cond rfl (fun h1 => ?_) (fun h1 => ?_)
          | refine aw_skip ?_
          | refine aw_exit ?_
          | refine aw_ret ?_
          | refine pp_ret ?_
          | refine pp_normal ?_
        all_goals first | exact pm_ret _ (renumD [4]) rfl | (exfalso; omega)
      · exact fun _ _ h => h.elim
    · rw [if_pos hc0] at he
      subst he
      rw [if_pos (by decide), if_pos (by decide)]
      clear hv hsz hpg hpk hc
      refine acalls_of_aw Try.func30 rfl rfl ?_
      refine aw_ghost 1 rfl ?_
      repeat' first
        | refine st ?_
        | refine st_call (V1) ?_
        | refine st_call (V2) ?_
        | refine st_call (V3) ?_
        | refine st_call (V4) ?_
        | refine sd_call (V1) ?_
        | refine sd_call (V2) ?_
        | refine sd_call (V3) ?_
        | refine sd_call (V4) ?_
        | refine stMW [] (ac_pages (d.extract 9 d.size) 32) ?_
        | refine stm ?_
        | refine run_want rfl rfl ?_
        | refine run_unwant rfl rfl ?_
        | refine run_undef rfl rfl ?_
        | refine run_guard1t rfl rfl (by omega) ?_
        | refine run_guard1f rfl rfl (by omega) ?_
        | refine run_guard0t rfl rfl (by omega) ?_
        | refine run_guard0f rfl rfl (by omega) ?_
        | refine run_guard1 rfl rfl (fun h1 => ?_) (fun h1 => ?_)
        | refine run_guard0 rfl rfl (fun h1 => ?_) (fun h1 => ?_)
        | refine run_guard rfl rfl (fun h1 => ?_) (fun h1 => ?_)
        | refine run_nil ?_
        | refine sd ?_
        | refine sdl ?_
        | refine sdm (n := 1) ?_
        | refine sdm ?_
        | refine sdb ?_
        | refine rund_want rfl rfl ?_
        | refine rund_unwant rfl rfl ?_
        | refine rund_undef rfl rfl ?_
        | refine rund_guard1 rfl rfl (fun h1 => ?_) (fun h1 => ?_)
        | refine rund_guard0 rfl rfl (fun h1 => ?_) (fun h1 => ?_)
        | refine rund_guard rfl rfl (fun h1 => ?_) (fun h1 => ?_)
        | refine rund_nil ?_
        | refine aw_seq ?_
        | refine aw_region (by kernel_rfl) (Nat.le_of_ble_eq_true rfl) ?_
        | refine aw_region_dC (id := 3) [0, 1, 3, 0, 8, 31, 0, 64, 255, 0, 512, 2047, 4095, 0, 16383] 14 (by (repeat constructor)) (by kernel_rfl) (by kernel_rfl) (by kernel_rfl) (by rfl) ?_
        | refine aw_region_dC (id := 6) [0, 1, 0, 4, 12, 31, 63, 127] 5 (by (repeat constructor)) (by kernel_rfl) (by kernel_rfl) (by kernel_rfl) (by rfl) ?_
        | refine aw_block ?_
        | refine aw_cond_t rfl ?_
        | refine aw_cond_f rfl ?_
        | refine aw_cond_tp rfl (by omega) ?_
        | refine aw_cond_fp rfl (by omega) ?_
        | refine aw_cond1 rfl (fun h1 => ?_) (fun h1 => ?_)
        | refine aw_cond rfl (fun h1 => ?_) (fun h1 => ?_)
        | refine aw_skip ?_
        | refine aw_exit ?_
        | refine aw_ret ?_
        | refine pp_ret ?_
        | refine pp_normal ?_
      all_goals try (exfalso; first | omega | (simp_all; done))
      refine aw_fits (σh := [(2, .pointer (some ⟨0, 0, none⟩)), (4, .pointer (some ⟨1, 0, none⟩)), (38, .func (.func 55) #[] #[.pointer (some ⟨3, 0, none⟩), .pointer (some ⟨2, 0, none⟩)])]) (mh := (fun pre : List (Fin N) => [some ⟨[.int .i64 0, .int .i64 0, .int .i64 0, .int .i64 0, .slice none 0 0], true, 1⟩, some ⟨[.int .i64 v, .int .i64 sz, .int .i64 pg, .int .i64 pk, .slice (some ⟨4, 0, none⟩) pre.length pre.length], true, 1⟩, some ⟨[.string (d.extract 9 d.size)], true, 1⟩, some ⟨[.int .i64 32], true, 1⟩, some ⟨List.map Value.string (pre.map (fun x : Fin N => pgS (d.extract 9 d.size) 32 x.val)), true, 1⟩]) []) (fitsD [1, 2, 3, 4, 0]) ?_
      refine aw_rangeFunc (gf := 55) (cs := [.int .i64 32, .string (d.extract 9 d.size)]) (N := N) (encs := pgEn (d.extract 9 d.size) 32 N) 4 [3, 2] (fun pre : List (Fin N) => [some ⟨[.int .i64 0, .int .i64 0, .int .i64 0, .int .i64 0, .slice none 0 0], true, 1⟩, some ⟨[.int .i64 v, .int .i64 sz, .int .i64 pg, .int .i64 pk, .slice (some ⟨4, 0, none⟩) pre.length pre.length], true, 1⟩, some ⟨[.string (d.extract 9 d.size)], true, 1⟩, some ⟨[.int .i64 32], true, 1⟩, some ⟨List.map Value.string (pre.map (fun x : Fin N => pgS (d.extract 9 d.size) 32 x.val)), true, 1⟩]) (fun _ => True) (fun x : Fin N => [(4, .pointer (some ⟨1, 0, none⟩)), (6, .string (pgS (d.extract 9 d.size) 32 x.val))]) (fun _ _ => False)
        (it_pages 32 (d.extract 9 d.size) N (by omega) (by omega) (fun k => by omega) (by omega)) rfl trivial (Nat.zero_le _) (by intro c hc; simp at hc; rcases hc with rfl | rfl <;> rfl) rfl (by decide) rfl (fun _ => rfl) rfl rfl (by decide) ?_ ?_ ?_ ?_ ?_ ?_ ?_
      · intro x
        refine ⟨rfl, fun u hu => ?_⟩
        simp [pgEn] at hu
        rcases hu with rfl | rfl <;> rfl
      · intro pre
        refine ⟨by simp, noMap_of rfl, fun i id c h1 h2 => ?_⟩
        match i, h1, h2 with
        | 0, h1, h2 => cases h1; cases h2; exact ⟨_, _, rfl⟩
        | 1, h1, h2 => cases h1; cases h2; exact ⟨_, _, rfl⟩
      · exact fun _ _ h => h.elim
      · intro pre x
        repeat' first
          | refine st ?_
          | refine stm ?_
          | refine run_want rfl rfl ?_
          | refine run_unwant rfl rfl ?_
          | refine run_undef rfl rfl ?_
          | refine run_guard1t rfl rfl (by omega) ?_
          | refine run_guard1f rfl rfl (by omega) ?_
          | refine run_guard0t rfl rfl (by omega) ?_
          | refine run_guard0f rfl rfl (by omega) ?_
          | refine run_guard1 rfl rfl (fun h1 => ?_) (fun h1 => ?_)
          | refine run_guard0 rfl rfl (fun h1 => ?_) (fun h1 => ?_)
          | refine run_guard rfl rfl (fun h1 => ?_) (fun h1 => ?_)
          | refine run_nil ?_
          | refine sd ?_
          | refine sdl ?_
          | refine sdm (n := 1) ?_
          | refine sdm ?_
          | refine sdb ?_
          | refine rund_want rfl rfl ?_
          | refine rund_unwant rfl rfl ?_
          | refine rund_undef rfl rfl ?_
          | refine rund_guard1 rfl rfl (fun h1 => ?_) (fun h1 => ?_)
          | refine rund_guard0 rfl rfl (fun h1 => ?_) (fun h1 => ?_)
          | refine rund_guard rfl rfl (fun h1 => ?_) (fun h1 => ?_)
          | refine rund_nil ?_
          | refine aw_seq ?_
          | refine aw_region (by kernel_rfl) (Nat.le_of_ble_eq_true rfl) ?_
          | refine aw_region_dC (id := 3) [0, 1, 3, 0, 8, 31, 0, 64, 255, 0, 512, 2047, 4095, 0, 16383] 14 (by (repeat constructor)) (by kernel_rfl) (by kernel_rfl) (by kernel_rfl) (by rfl) ?_
          | refine aw_region_dC (id := 6) [0, 1, 0, 4, 12, 31, 63, 127] 5 (by (repeat constructor)) (by kernel_rfl) (by kernel_rfl) (by kernel_rfl) (by rfl) ?_
          | refine aw_block ?_
          | refine aw_cond_t rfl ?_
          | refine aw_cond_f rfl ?_
          | refine aw_cond_tp rfl (by omega) ?_
          | refine aw_cond_fp rfl (by omega) ?_
          | refine aw_cond1 rfl (fun h1 => ?_) (fun h1 => ?_)
          | refine aw_cond rfl (fun h1 => ?_) (fun h1 => ?_)
          | refine aw_skip ?_
          | refine aw_exit ?_
          | refine aw_ret ?_
          | refine pp_ret ?_
          | refine pp_normal ?_
        all_goals exact ⟨rfl, fitsD [0, 1, 2, 3, 4]⟩
      · intro pre x _ hpl
        have hxs : (pgS (d.extract 9 d.size) 32 x.val).size ≤ d.size := by
          unfold pgS; rw [ByteArray.size_extract]; omega
        have H3 := ac_clone (pgS (d.extract 9 d.size) 32 x.val) (by omega)
        have hu : List.map Value.string (List.map (fun x : Fin N => pgS (d.extract 9 d.size) 32 x.val) (pre ++ [x])) = List.map Value.string (List.map (fun x : Fin N => pgS (d.extract 9 d.size) 32 x.val) pre) ++ [.string (pgS (d.extract 9 d.size) 32 x.val)] := by simp
        repeat' first
          | refine sdb (n := 1) ?_ (h := by (apply ok_append (cs := List.map Value.string (List.map (fun x : Fin N => pgS (d.extract 9 d.size) 32 x.val) (pre ++ [x]))) (olds := List.map Value.string (List.map (fun x : Fin N => pgS (d.extract 9 d.size) 32 x.val) pre)); rfl; rfl; rfl; rfl; rfl; rfl; (focus first | (apply Src.slc; rfl; exact Ty.eq; rfl; exact Nat.le_of_ble_eq_true rfl; exact TakeR.eq (by ((repeat constructor); first | done | fail)); rfl; rfl; first | done | fail)); (focus simp); (focus (apply take_full; simp)); (focus exact hu.symm); omega; (focus ((repeat constructor); first | done | fail))))
          | refine st ?_
          | refine st_call (H3) ?_
          | refine sd_call (H3) ?_
          | refine stm ?_
          | refine run_want rfl rfl ?_
          | refine run_unwant rfl rfl ?_
          | refine run_undef rfl rfl ?_
          | refine run_guard1t rfl rfl (by omega) ?_
          | refine run_guard1f rfl rfl (by omega) ?_
          | refine run_guard0t rfl rfl (by omega) ?_
          | refine run_guard0f rfl rfl (by omega) ?_
          | refine run_guard1 rfl rfl (fun h1 => ?_) (fun h1 => ?_)
          | refine run_guard0 rfl rfl (fun h1 => ?_) (fun h1 => ?_)
          | refine run_guard rfl rfl (fun h1 => ?_) (fun h1 => ?_)
          | refine run_nil ?_
          | refine sd ?_
          | refine sdl ?_
          | refine sdm (n := 1) ?_
          | refine sdm ?_
          | refine sdb ?_
          | refine rund_want rfl rfl ?_
          | refine rund_unwant rfl rfl ?_
          | refine rund_undef rfl rfl ?_
          | refine rund_guard1 rfl rfl (fun h1 => ?_) (fun h1 => ?_)
          | refine rund_guard0 rfl rfl (fun h1 => ?_) (fun h1 => ?_)
          | refine rund_guard rfl rfl (fun h1 => ?_) (fun h1 => ?_)
          | refine rund_nil ?_
          | refine aw_seq ?_
          | refine aw_region (by kernel_rfl) (Nat.le_of_ble_eq_true rfl) ?_
          | refine aw_region_dC (id := 3) [0, 1, 3, 0, 8, 31, 0, 64, 255, 0, 512, 2047, 4095, 0, 16383] 14 (by (repeat constructor)) (by kernel_rfl) (by kernel_rfl) (by kernel_rfl) (by rfl) ?_
          | refine aw_region_dC (id := 6) [0, 1, 0, 4, 12, 31, 63, 127] 5 (by (repeat constructor)) (by kernel_rfl) (by kernel_rfl) (by kernel_rfl) (by rfl) ?_
          | refine aw_block ?_
          | refine aw_cond_t rfl ?_
          | refine aw_cond_f rfl ?_
          | refine aw_cond_tp rfl (by omega) ?_
          | refine aw_cond_fp rfl (by omega) ?_
          | refine aw_cond1 rfl (fun h1 => ?_) (fun h1 => ?_)
          | refine aw_cond rfl (fun h1 => ?_) (fun h1 => ?_)
          | refine aw_skip ?_
          | refine aw_exit ?_
          | refine aw_ret ?_
          | refine pp_ret ?_
          | refine pp_normal ?_
        all_goals first
          | exact .inl ⟨rfl, by rw [List.length_append]; exact fitsD [0, 1, 2, 3, 6], trivial⟩
          | (exfalso; omega)
      · intro _
        rw [List.length_finRange, clL_fin]
        refine aw_ghost 1 rfl ?_
        repeat' first
          | refine st ?_
          | refine stRW [4] HC ?_
          | refine sdRW [4] HC ?_
          | refine stm ?_
          | refine run_want rfl rfl ?_
          | refine run_unwant rfl rfl ?_
          | refine run_undef rfl rfl ?_
          | refine run_guard1t rfl rfl (by omega) ?_
          | refine run_guard1f rfl rfl (by omega) ?_
          | refine run_guard0t rfl rfl (by omega) ?_
          | refine run_guard0f rfl rfl (by omega) ?_
          | refine run_guard1 rfl rfl (fun h1 => ?_) (fun h1 => ?_)
          | refine run_guard0 rfl rfl (fun h1 => ?_) (fun h1 => ?_)
          | refine run_guard rfl rfl (fun h1 => ?_) (fun h1 => ?_)
          | refine run_nil ?_
          | refine sd ?_
          | refine sdl ?_
          | refine sdm (n := 1) ?_
          | refine sdm ?_
          | refine sdb ?_
          | refine rund_want rfl rfl ?_
          | refine rund_unwant rfl rfl ?_
          | refine rund_undef rfl rfl ?_
          | refine rund_guard1 rfl rfl (fun h1 => ?_) (fun h1 => ?_)
          | refine rund_guard0 rfl rfl (fun h1 => ?_) (fun h1 => ?_)
          | refine rund_guard rfl rfl (fun h1 => ?_) (fun h1 => ?_)
          | refine rund_nil ?_
          | refine aw_seq ?_
          | refine aw_region (by kernel_rfl) (Nat.le_of_ble_eq_true rfl) ?_
          | refine aw_region_dC (id := 3) [0, 1, 3, 0, 8, 31, 0, 64, 255, 0, 512, 2047, 4095, 0, 16383] 14 (by (repeat constructor)) (by kernel_rfl) (by kernel_rfl) (by kernel_rfl) (by rfl) ?_
          | refine aw_region_dC (id := 6) [0, 1, 0, 4, 12, 31, 63, 127] 5 (by (repeat constructor)) (by kernel_rfl) (by kernel_rfl) (by kernel_rfl) (by rfl) ?_
          | refine aw_block ?_
          | refine aw_cond_t rfl ?_
          | refine aw_cond_f rfl ?_
          | refine aw_cond_tp rfl (by omega) ?_
          | refine aw_cond_fp rfl (by omega) ?_
          | refine aw_cond1 rfl (fun h1 => ?_) (fun h1 => ?_)
          | refine aw_cond rfl (fun h1 => ?_) (fun h1 => ?_)
          | refine aw_skip ?_
          | refine aw_exit ?_
          | refine aw_ret ?_
          | refine pp_ret ?_
          | refine pp_normal ?_
        all_goals first | (refine pmw_ret _ (renumA [5]) ?_; exact Wk.tupleL (.cons (Wk.aggL (.cons (.refl _) (.cons (.refl _) (.cons (.refl _) (.cons (.refl _) (.cons .nil .nil)))))) (.cons (.refl _) .nil))) | (exfalso; omega) | (exfalso; simp_all; done)
      · exact fun _ _ h => h.elim
end Go.Proofs.Ytpofbjmmlommoaa
