/- Image: Decode of the reference. -/
import Derived.Test.YtjofcjogbopkjaaGreatVL
import Derived.Test.YtjofcjogbopkjaaGreatT4
set_option linter.unusedVariables false
set_option linter.unusedSimpArgs false
namespace Go.Proofs.YtjofcjogbopkjaaGreat
open Go Av
set_option maxRecDepth 20000
structure Jg where
  i : Nat
  j : Int
set_option maxHeartbeats 8000000 in
theorem ac_rdecode (d : ByteArray) (hd : d.size ≤ 1000000) (e : Int) (he : deE d = e) (N : Nat) (hN : deN d = N) (v sz pg pk : Int) (hv : valS (d.extract 0 2) = v) (hsz : valS (d.extract 2 6) = sz) (hpg : valS (d.extract 6 8) = pg) (hpk : valS (d.extract 8 9) = pk) : ACalls Tryz.prog 37 [.string d] [] (.tuple #[if e ≠ 0 then .agg #[.int .i64 0, .int .i64 0, .int .i64 0, .int .i64 0, .slice (some ⟨0, 0, none⟩) 0 0] else .agg #[.int .i64 v, .int .i64 sz, .int .i64 pg, .int .i64 pk, .slice (some ⟨0, 0, none⟩) N N], .int .i64 e]) [some ⟨List.map Value.string (if e ≠ 0 then [] else clL d N), true, 1⟩] := by
  unfold deE at he
  by_cases h1 : d.size < 9 ∨ (d.size - 9) % 32 ≠ 0
  · rw [if_pos h1] at he
    subst he
    rw [if_pos (by decide), if_pos (by decide)]
    have h1' : d.size < 9 ∨ ((d.size : Int) - 9) % 32 ≠ 0 := by omega
    refine acalls_of_aw Tryz.func37 rfl rfl ?_
    refine aw_ghost 1 rfl ?_
    repeat' first | intro h1 | refine st ?_ | refine stm ?_ | refine Ja ?_ | refine Jb ?_ | refine Ji ?_ ?_ | refine run_nil ?_ | refine Jz ?_ | refine Jw ?_ | refine Jq ?_ | refine Js ?_ | refine aw_ret ?_
    all_goals first | (refine pmw_ret _ (renumA [0]) ?_; exact Wk.tupleL (.cons (Wk.aggL (.cons (.refl _) (.cons (.refl _) (.cons (.refl _) (.cons (.refl _) (.cons .nil .nil)))))) (.cons (.refl _) .nil)))
  · rw [if_neg h1] at he
    have h1' : ((d.size : Int) - 9) % 32 = 0 := by omega
    have hN2 : d.size = 9 + 32 * N := by rw [← hN, deN]; omega
    have hlen := clL_len d N
    have s1 : (d.extract 0 2).size = 2 := by rw [ByteArray.size_extract]; omega
    have s2 : (d.extract 2 6).size = 4 := by rw [ByteArray.size_extract]; omega
    have s3 : (d.extract 6 8).size = 2 := by rw [ByteArray.size_extract]; omega
    have s4 : (d.extract 8 9).size = 1 := by rw [ByteArray.size_extract]; omega
    have V1 := ac_rnumber (d.extract 0 2) (by omega) v hv
    have V2 := ac_rnumber (d.extract 2 6) (by omega) sz hsz
    have V3 := ac_rnumber (d.extract 6 8) (by omega) pg hpg
    have V4 := ac_rnumber (d.extract 8 9) (by omega) pk hpk
    obtain ⟨c, hc⟩ : ∃ c, deC d = c := ⟨_, rfl⟩
    rw [hc] at he
    have HC := ac_rmcheck v sz pg pk (clL d N) N hlen (by omega) c (by rw [← hc, deC, hv, hsz, hpg, hpk, hN])
    by_cases hc0 : c = 0
    · subst hc0
      rw [if_neg (by decide)] at he
      subst he
      rw [if_neg (by decide), if_neg (by decide)]
      clear hv hsz hpg hpk hc
      refine acalls_of_aw Tryz.func37 rfl rfl ?_
      refine aw_ghost 1 rfl ?_
      repeat' first | refine st ?_ | refine sd_call (V1) ?_ | refine sd_call (V2) ?_ | refine sd_call (V3) ?_ | refine sd_call (V4) ?_ | refine stm ?_ | refine Ja ?_ | refine Jf ?_ | refine run_nil ?_ | refine sd ?_ | refine sdl ?_ | refine sdm (n := 1) ?_ | refine sdb ?_ | refine rund_nil ?_ | refine Jz ?_ | refine Jw ?_ | refine Jx (id := 3) [0,1,3,0,8,31,0,64,255,0,512,2047,4095,0,16383] 14 ?_ | refine aw_block ?_ | refine Jt ?_ | refine Jy ?_
      all_goals try (exfalso; first | omega | (simp_all; done))
      refine aw_loopg
        (S := fun y : Jg => [(0, .string d), (2, .pointer (some ⟨0, 0, none⟩)), (4, .pointer (some ⟨1, 0, none⟩)), (5, .int .i64 y.j)])
        (B := fun y : Jg => [some ⟨[.int .i64 0, .int .i64 0, .int .i64 0, .int .i64 0, .slice none 0 0], true, 1⟩, some ⟨[.int .i64 v, .int .i64 sz, .int .i64 pg, .int .i64 pk, .slice (some ⟨2, 0, none⟩) y.i y.i], true, 1⟩, some ⟨List.map Value.string (clL d y.i), true, 1⟩])
        (R := fun y : Jg => y.i ≤ N ∧ y.j = 9 + 32 * (y.i : Int))
        (μ := fun y : Jg => N - y.i) ⟨0, 9⟩ (fitsD [1, 2, 0]) ⟨Nat.zero_le _, rfl⟩ ?_
      rintro ⟨i, j⟩ ⟨g1, g2⟩
      dsimp only at *
      by_cases hi : i < N
      · have hl := clL_len d i
        have hu : List.map Value.string (clL d (i + 1)) = List.map Value.string (clL d i) ++ [.string (d.extract j.toNat (j + 32).toNat)] := by
          rw [clL_succ, pg_ref (by omega), show j.toNat = 9 + 32 * i by omega, show (j + 32).toNat = 9 + 32 * i + 32 by omega]; simp
        repeat' first | refine sdb (n := 1) ?_ (h := by (apply ok_append (cs := List.map Value.string (clL d (i + 1))) (olds := List.map Value.string (clL d i)); rfl; rfl; rfl; rfl; rfl; rfl; (focus first | (apply Src.slc; rfl; exact Ty.eq; rfl; exact Nat.le_of_ble_eq_true rfl; exact TakeR.eq (by ((repeat constructor); first | done | fail)); rfl; rfl; first | done | fail)); (focus (simp [hl])); (focus (apply take_full; simp [hl])); (focus exact hu.symm); omega; (focus ((repeat constructor); first | done | fail)))) | refine st ?_ | refine run_nil ?_ | refine sd ?_ | refine sdl ?_ | refine sdm (n := 1) ?_ | refine sdb ?_ | refine rund_nil ?_ | refine Jz ?_ | refine Jw ?_ | refine Jx (id := 7) [0,1,0,0,0,16,60,124,255,511,1023] 8 ?_ | refine aw_block ?_ | refine Js ?_ | refine Jy ?_
        all_goals first | exact Exists.intro ⟨i + 1, _⟩ ⟨fitsD [0, 1, 4], ⟨hi, by dsimp only; omega⟩, by dsimp only; omega⟩
      · obtain rfl : i = N := by omega
        repeat' first | refine st ?_ | refine stRW [2] HC ?_ | refine stm ?_ | refine run_nil ?_ | refine Jz ?_ | refine Jw ?_ | refine Jr ?_ | refine Jt ?_ | refine Jy ?_ | refine aw_exit ?_ | refine aw_ret ?_
        all_goals first | exact pm_ret _ (renumD [2]) rfl
    · rw [if_pos hc0] at he
      subst he
      rw [if_pos (by decide), if_pos (by decide)]
      clear hv hsz hpg hpk hc
      refine acalls_of_aw Tryz.func37 rfl rfl ?_
      refine aw_ghost 1 rfl ?_
      repeat' first | refine st ?_ | refine sd_call (V1) ?_ | refine sd_call (V2) ?_ | refine sd_call (V3) ?_ | refine sd_call (V4) ?_ | refine stm ?_ | refine Ja ?_ | refine Jf ?_ | refine run_nil ?_ | refine sd ?_ | refine sdl ?_ | refine sdm (n := 1) ?_ | refine sdb ?_ | refine rund_nil ?_ | refine Jz ?_ | refine Jw ?_ | refine Jx (id := 3) [0,1,3,0,8,31,0,64,255,0,512,2047,4095,0,16383] 14 ?_ | refine aw_block ?_ | refine Jt ?_ | refine Jy ?_
      all_goals try (exfalso; first | omega | (simp_all; done))
      refine aw_loopg
        (S := fun y : Jg => [(0, .string d), (2, .pointer (some ⟨0, 0, none⟩)), (4, .pointer (some ⟨1, 0, none⟩)), (5, .int .i64 y.j)])
        (B := fun y : Jg => [some ⟨[.int .i64 0, .int .i64 0, .int .i64 0, .int .i64 0, .slice none 0 0], true, 1⟩, some ⟨[.int .i64 v, .int .i64 sz, .int .i64 pg, .int .i64 pk, .slice (some ⟨2, 0, none⟩) y.i y.i], true, 1⟩, some ⟨List.map Value.string (clL d y.i), true, 1⟩])
        (R := fun y : Jg => y.i ≤ N ∧ y.j = 9 + 32 * (y.i : Int))
        (μ := fun y : Jg => N - y.i) ⟨0, 9⟩ (fitsD [1, 2, 0]) ⟨Nat.zero_le _, rfl⟩ ?_
      rintro ⟨i, j⟩ ⟨g1, g2⟩
      dsimp only at *
      by_cases hi : i < N
      · have hl := clL_len d i
        have hu : List.map Value.string (clL d (i + 1)) = List.map Value.string (clL d i) ++ [.string (d.extract j.toNat (j + 32).toNat)] := by
          rw [clL_succ, pg_ref (by omega), show j.toNat = 9 + 32 * i by omega, show (j + 32).toNat = 9 + 32 * i + 32 by omega]; simp
        repeat' first | refine sdb (n := 1) ?_ (h := by (apply ok_append (cs := List.map Value.string (clL d (i + 1))) (olds := List.map Value.string (clL d i)); rfl; rfl; rfl; rfl; rfl; rfl; (focus first | (apply Src.slc; rfl; exact Ty.eq; rfl; exact Nat.le_of_ble_eq_true rfl; exact TakeR.eq (by ((repeat constructor); first | done | fail)); rfl; rfl; first | done | fail)); (focus (simp [hl])); (focus (apply take_full; simp [hl])); (focus exact hu.symm); omega; (focus ((repeat constructor); first | done | fail)))) | refine st ?_ | refine run_nil ?_ | refine sd ?_ | refine sdl ?_ | refine sdm (n := 1) ?_ | refine sdb ?_ | refine rund_nil ?_ | refine Jz ?_ | refine Jw ?_ | refine Jx (id := 7) [0,1,0,0,0,16,60,124,255,511,1023] 8 ?_ | refine aw_block ?_ | refine Js ?_ | refine Jy ?_
        all_goals first | exact Exists.intro ⟨i + 1, _⟩ ⟨fitsD [0, 1, 4], ⟨hi, by dsimp only; omega⟩, by dsimp only; omega⟩
      · obtain rfl : i = N := by omega
        refine aw_ghost 1 rfl ?_
        repeat' first | refine st ?_ | refine stRW [2] HC ?_ | refine stm ?_ | refine run_nil ?_ | refine Jz ?_ | refine Jw ?_ | refine Js ?_ | refine Jt ?_ | refine aw_exit ?_ | refine aw_ret ?_
        all_goals first | (refine pmw_ret _ (renumA [3]) ?_; exact Wk.tupleL (.cons (Wk.aggL (.cons (.refl _) (.cons (.refl _) (.cons (.refl _) (.cons (.refl _) (.cons .nil .nil)))))) (.cons (.refl _) .nil)))
end Go.Proofs.YtjofcjogbopkjaaGreat
