/- Beacons: which frames they are, and which is better; Beacons: read. -/
import Derived.Test.YtdbcbclapipgdaaGreatDoorVO
import Derived.Test.YtdbcbclapipgdaaGreatDoorJ
import Derived.Test.YtdbcbclapipgdaaGreatDoorC9
import Derived.Test.YtdbcbclapipgdaaGreatDoorC12
set_option linter.unusedVariables false
set_option linter.unusedSimpArgs false
namespace Go.Proofs.YtdbcbclapipgdaaGreatDoor
open Go Av
set_option maxRecDepth 20000
theorem ac_ris (kd sr tg li sq fl nu er sx rk ep : Int) (dt : ByteArray) (x : Bool) (hx : isC kd sr tg li sq fl nu er sx rk ep = x) : ACalls Tryz.prog 117 [.agg #[.int .i64 kd, .int .i64 sr, .int .i64 tg, .int .i64 li, .int .i64 sq, .int .i64 fl, .int .i64 nu, .int .i64 er, .int .i64 sx, .int .i64 rk, .int .i64 ep, .string dt]] [] (.bool x) [] := by
  unfold isC at hx
  by_cases hk : kd = 3
  · subst hk
    obtain ⟨y, hy⟩ : ∃ y, okC sr tg li sq fl nu er sx rk ep = y := ⟨_, rfl⟩
    have H := ac_rfcheck sr tg li sq fl nu er sx rk ep dt y hy
    obtain rfl : x = y := by rw [← hx, hy]; rfl
    cases x
    · replace H : ACalls Tryz.prog 120 [.agg #[.int .i64 3, .int .i64 sr, .int .i64 tg, .int .i64 li, .int .i64 sq, .int .i64 fl, .int .i64 nu, .int .i64 er, .int .i64 sx, .int .i64 rk, .int .i64 ep, .string dt]] [] (.int .i64 1) [] := H
      refine acalls_law Tryz.func117 rfl rfl rfl ?_
      repeat' first | intro h1 | refine st ?_ | refine st_call (H) ?_ | refine sd_call (H) ?_ | refine stm ?_ | refine Ja ?_ | refine Jb ?_ | refine Jc ?_ | refine Jd ?_ | refine Je ?_ | refine Jf ?_ | refine Jg ?_ | refine Jh ?_ ?_ | refine Ji ?_ ?_ | refine Jj ?_ ?_ | refine run_nil ?_ | refine Jz ?_ | refine Jw ?_ | refine aw_block ?_ | refine Jq ?_ | refine Jr ?_ | refine Js ?_ | refine Jt ?_ | refine Ju ?_ ?_ | refine Jv ?_ ?_ | refine Jy ?_ | refine aw_exit ?_ | refine aw_ret ?_ | refine pp_ret ?_ | refine pp_normal ?_
      all_goals first | rfl | (exfalso; omega) | (exfalso; simp only [Bool.not_eq_true', Bool.not_eq_false', decide_eq_true_eq, decide_eq_false_iff_not, Bool.not_false, Bool.not_true] at *; omega) | (exfalso; simp only [Bool.not_eq_true', Bool.not_eq_false', decide_eq_true_eq, decide_eq_false_iff_not, Bool.not_false, Bool.not_true, eq_self, true_and, and_true, Classical.not_not, not_true_eq_false, not_false_eq_true] at *; omega) | (exfalso; simp_all; done) | (exfalso; simp_all; omega)
    · replace H : ACalls Tryz.prog 120 [.agg #[.int .i64 3, .int .i64 sr, .int .i64 tg, .int .i64 li, .int .i64 sq, .int .i64 fl, .int .i64 nu, .int .i64 er, .int .i64 sx, .int .i64 rk, .int .i64 ep, .string dt]] [] (.int .i64 0) [] := H
      refine acalls_law Tryz.func117 rfl rfl rfl ?_
      repeat' first | intro h1 | refine st ?_ | refine st_call (H) ?_ | refine sd_call (H) ?_ | refine stm ?_ | refine Ja ?_ | refine Jb ?_ | refine Jc ?_ | refine Jd ?_ | refine Je ?_ | refine Jf ?_ | refine Jg ?_ | refine Jh ?_ ?_ | refine Ji ?_ ?_ | refine Jj ?_ ?_ | refine run_nil ?_ | refine Jz ?_ | refine Jw ?_ | refine aw_block ?_ | refine Jq ?_ | refine Jr ?_ | refine Js ?_ | refine Jt ?_ | refine Ju ?_ ?_ | refine Jv ?_ ?_ | refine Jy ?_ | refine aw_exit ?_ | refine aw_ret ?_ | refine pp_ret ?_ | refine pp_normal ?_
      all_goals first | rfl | (exfalso; omega) | (exfalso; simp only [Bool.not_eq_true', Bool.not_eq_false', decide_eq_true_eq, decide_eq_false_iff_not, Bool.not_false, Bool.not_true] at *; omega) | (exfalso; simp only [Bool.not_eq_true', Bool.not_eq_false', decide_eq_true_eq, decide_eq_false_iff_not, Bool.not_false, Bool.not_true, eq_self, true_and, and_true, Classical.not_not, not_true_eq_false, not_false_eq_true] at *; omega) | (exfalso; simp_all; done) | (exfalso; simp_all; omega)
  · obtain rfl : x = false := by rw [← hx, decide_eq_false hk]; rfl
    refine acalls_law Tryz.func117 rfl rfl rfl ?_
    repeat' first | intro h1 | refine st ?_ | refine stm ?_ | refine Ja ?_ | refine Jb ?_ | refine Jc ?_ | refine Jd ?_ | refine Je ?_ | refine Jf ?_ | refine Jg ?_ | refine Jh ?_ ?_ | refine Ji ?_ ?_ | refine Jj ?_ ?_ | refine run_nil ?_ | refine Jz ?_ | refine Jw ?_ | refine aw_block ?_ | refine Jq ?_ | refine Jr ?_ | refine Js ?_ | refine Jt ?_ | refine Ju ?_ ?_ | refine Jv ?_ ?_ | refine Jy ?_ | refine aw_exit ?_ | refine aw_ret ?_ | refine pp_ret ?_ | refine pp_normal ?_
    all_goals first | rfl | (exfalso; omega) | (exfalso; simp only [Bool.not_eq_true', Bool.not_eq_false', decide_eq_true_eq, decide_eq_false_iff_not, Bool.not_false, Bool.not_true] at *; omega) | (exfalso; simp only [Bool.not_eq_true', Bool.not_eq_false', decide_eq_true_eq, decide_eq_false_iff_not, Bool.not_false, Bool.not_true, eq_self, true_and, and_true, Classical.not_not, not_true_eq_false, not_false_eq_true] at *; omega) | (exfalso; simp_all; done) | (exfalso; simp_all; omega)
set_option maxHeartbeats 8000000 in
theorem ac_rbetter (kd sr tg li sq fl nu er sx rk ep : Int) (dt : ByteArray) (kd' sr' tg' li' sq' fl' nu' er' sx' rk' ep' : Int) (dt' : ByteArray) (i j x : Bool) (hi : isC kd sr tg li sq fl nu er sx rk ep = i) (hj : isC kd' sr' tg' li' sq' fl' nu' er' sx' rk' ep' = j) (hx : betC i j ep rk sr ep' rk' sr' = x) : ACalls Tryz.prog 83 [.agg #[.int .i64 kd, .int .i64 sr, .int .i64 tg, .int .i64 li, .int .i64 sq, .int .i64 fl, .int .i64 nu, .int .i64 er, .int .i64 sx, .int .i64 rk, .int .i64 ep, .string dt], .agg #[.int .i64 kd', .int .i64 sr', .int .i64 tg', .int .i64 li', .int .i64 sq', .int .i64 fl', .int .i64 nu', .int .i64 er', .int .i64 sx', .int .i64 rk', .int .i64 ep', .string dt']] [] (.bool x) [] := by
  have H1 := ac_ris kd sr tg li sq fl nu er sx rk ep dt i hi
  have H2 := ac_ris kd' sr' tg' li' sq' fl' nu' er' sx' rk' ep' dt' j hj
  clear hi hj
  cases i
  · obtain rfl : x = false := hx.symm
    refine acalls_law Tryz.func83 rfl rfl rfl ?_
    repeat' first | intro h1 | refine st (h := ok_not_dec2 rfl) ?_ | refine st ?_ | refine st_call (H1) ?_ | refine st_call (H2) ?_ | refine sd_call (H1) ?_ | refine sd_call (H2) ?_ | refine stm ?_ | refine Ja ?_ | refine Jb ?_ | refine Jc ?_ | refine Jd ?_ | refine Je ?_ | refine Jf ?_ | refine Jg ?_ | refine Jh ?_ ?_ | refine Ji ?_ ?_ | refine Jj ?_ ?_ | refine run_nil ?_ | refine Jz ?_ | refine Jw ?_ | refine aw_block ?_ | refine Jq ?_ | refine Jr ?_ | refine Js ?_ | refine Jt ?_ | refine Ju ?_ ?_ | refine Jv ?_ ?_ | refine Jy ?_ | refine aw_exit ?_ | refine aw_ret ?_ | refine pp_ret ?_ | refine pp_normal ?_
    all_goals first | rfl | (exfalso; omega) | (exfalso; simp only [Bool.not_eq_true', Bool.not_eq_false', decide_eq_true_eq, decide_eq_false_iff_not, Bool.not_false, Bool.not_true] at *; omega) | (exfalso; simp only [Bool.not_eq_true', Bool.not_eq_false', decide_eq_true_eq, decide_eq_false_iff_not, Bool.not_false, Bool.not_true, eq_self, true_and, and_true, Classical.not_not, not_true_eq_false, not_false_eq_true] at *; omega) | (exfalso; simp_all; done) | (exfalso; simp_all; omega)
  · cases j
    · obtain rfl : x = false := hx.symm
      refine acalls_law Tryz.func83 rfl rfl rfl ?_
      repeat' first | intro h1 | refine st (h := ok_not_dec2 rfl) ?_ | refine st ?_ | refine st_call (H1) ?_ | refine st_call (H2) ?_ | refine sd_call (H1) ?_ | refine sd_call (H2) ?_ | refine stm ?_ | refine Ja ?_ | refine Jb ?_ | refine Jc ?_ | refine Jd ?_ | refine Je ?_ | refine Jf ?_ | refine Jg ?_ | refine Jh ?_ ?_ | refine Ji ?_ ?_ | refine Jj ?_ ?_ | refine run_nil ?_ | refine Jz ?_ | refine Jw ?_ | refine aw_block ?_ | refine Jq ?_ | refine Jr ?_ | refine Js ?_ | refine Jt ?_ | refine Ju ?_ ?_ | refine Jv ?_ ?_ | refine Jy ?_ | refine aw_exit ?_ | refine aw_ret ?_ | refine pp_ret ?_ | refine pp_normal ?_
      all_goals first | rfl | (exfalso; omega) | (exfalso; simp only [Bool.not_eq_true', Bool.not_eq_false', decide_eq_true_eq, decide_eq_false_iff_not, Bool.not_false, Bool.not_true] at *; omega) | (exfalso; simp only [Bool.not_eq_true', Bool.not_eq_false', decide_eq_true_eq, decide_eq_false_iff_not, Bool.not_false, Bool.not_true, eq_self, true_and, and_true, Classical.not_not, not_true_eq_false, not_false_eq_true] at *; omega) | (exfalso; simp_all; done) | (exfalso; simp_all; omega)
    · replace hx : decide (ep > ep' ∨ (ep = ep' ∧ (rk < rk' ∨ (rk = rk' ∧ sr < sr')))) = x := hx
      refine acalls_law Tryz.func83 rfl rfl rfl ?_
      repeat' first | intro h1 | refine st (h := ok_not_dec2 rfl) ?_ | refine st ?_ | refine st_call (H1) ?_ | refine st_call (H2) ?_ | refine sd_call (H1) ?_ | refine sd_call (H2) ?_ | refine stm ?_ | refine Ja ?_ | refine Jb ?_ | refine Jc ?_ | refine Jd ?_ | refine Je ?_ | refine Jf ?_ | refine Jg ?_ | refine Jh ?_ ?_ | refine Ji ?_ ?_ | refine Jj ?_ ?_ | refine run_nil ?_ | refine Jz ?_ | refine Jw ?_ | refine aw_block ?_ | refine Jq ?_ | refine Jr ?_ | refine Js ?_ | refine Jt ?_ | refine Ju ?_ ?_ | refine Jv ?_ ?_ | refine Jy ?_ | refine aw_exit ?_ | refine aw_ret ?_ | refine pp_ret ?_ | refine pp_normal ?_
      all_goals first | (exfalso; omega) | (exfalso; simp_all; done) | (subst hx; show Value.bool _ = Value.bool _; congr 1; first | exact decide_eq_false (by omega) | exact decide_eq_true (by omega) | exact (decide_eq_false (by omega)).symm | exact (decide_eq_true (by omega)).symm | exact decide_eq_decide.2 (by omega))
set_option maxHeartbeats 4000000 in
theorem ac_rread (kd sr tg li sq fl nu er sx rk ep : Int) (dt : ByteArray) (hd : dt.size ≤ 1000) (i : Bool) (hi : isC kd sr tg li sq fl nu er sx rk ep = i) (m : OfT) (x : Int) (n : Nat) (hres : readO i dt = (m, x)) (hn : m.2.2.2.2.2.2.length = n) : ACalls Tryz.prog 82 [.agg #[.int .i64 kd, .int .i64 sr, .int .i64 tg, .int .i64 li, .int .i64 sq, .int .i64 fl, .int .i64 nu, .int .i64 er, .int .i64 sx, .int .i64 rk, .int .i64 ep, .string dt]] [] (.tuple #[.agg #[.int .i64 m.1, .bool m.2.1, .string m.2.2.1, .int .i64 m.2.2.2.1, .int .i64 m.2.2.2.2.1, .int .i64 m.2.2.2.2.2.1, .slice (some ⟨0, 0, none⟩) n n], .int .i64 x]) [some ⟨List.map (Value.int .i64) m.2.2.2.2.2.2, true, 1⟩] := by
  have H1 := ac_ris kd sr tg li sq fl nu er sx rk ep dt i hi
  clear hi
  cases i
  · obtain ⟨rfl, rfl⟩ := Prod.mk.inj hres.symm
    obtain rfl : n = 0 := hn.symm
    clear hres hn
    refine acalls_of_aw Tryz.func82 rfl rfl ?_
    refine aw_ghost 1 rfl ?_
    repeat' first | intro h1 | refine st (h := ok_not_dec2 rfl) ?_ | refine st ?_ | refine st_call (H1) ?_ | refine sd_call (H1) ?_ | refine stm ?_ | refine Ja ?_ | refine Jb ?_ | refine Jc ?_ | refine Jd ?_ | refine Je ?_ | refine Jf ?_ | refine Jg ?_ | refine Jh ?_ ?_ | refine Ji ?_ ?_ | refine Jj ?_ ?_ | refine run_nil ?_ | refine Jz ?_ | refine Jw ?_ | refine aw_block ?_ | refine Jq ?_ | refine Jr ?_ | refine Js ?_ | refine Jt ?_ | refine Ju ?_ ?_ | refine Jv ?_ ?_ | refine Jy ?_ | refine aw_exit ?_ | refine aw_ret ?_ | refine pp_ret ?_ | refine pp_normal ?_
    all_goals first | (refine pmw_ret _ (renumA [0]) ?_; exact Wk.tupleL (.cons (Wk.aggL (.cons (.refl _) (.cons (.refl _) (.cons (.refl _) (.cons (.refl _) (.cons (.refl _) (.cons (.refl _) (.cons .nil .nil)))))))) (.cons (.refl _) .nil))) | (exfalso; omega) | (exfalso; simp_all; done)
  · have H2 := ac_rodecode dt hd m x n hres hn
    clear hres
    refine acalls_of_aw Tryz.func82 rfl rfl ?_
    repeat' first | intro h1 | refine st (h := ok_not_dec2 rfl) ?_ | refine st ?_ | refine st_call (H1) ?_ | refine sd_call (H1) ?_ | refine stMW [] H2 ?_ | refine stm ?_ | refine Ja ?_ | refine Jb ?_ | refine Jc ?_ | refine Jd ?_ | refine Je ?_ | refine Jf ?_ | refine Jg ?_ | refine Jh ?_ ?_ | refine Ji ?_ ?_ | refine Jj ?_ ?_ | refine run_nil ?_ | refine Jz ?_ | refine Jw ?_ | refine aw_block ?_ | refine Jq ?_ | refine Jr ?_ | refine Js ?_ | refine Jt ?_ | refine Ju ?_ ?_ | refine Jv ?_ ?_ | refine Jy ?_ | refine aw_exit ?_ | refine aw_ret ?_ | refine pp_ret ?_ | refine pp_normal ?_
    all_goals first | exact pm_ret _ (renumD [2]) rfl | (exfalso; omega) | (exfalso; simp_all; done)
end Go.Proofs.YtdbcbclapipgdaaGreatDoor
