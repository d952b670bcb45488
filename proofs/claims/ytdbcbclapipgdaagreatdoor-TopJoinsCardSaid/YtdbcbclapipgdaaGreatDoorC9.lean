/- Beacons: frames checked; Beacons: which frames they are, and which is better; Beacons: read; Beacons: made. -/
import Derived.Test.YtdbcbclapipgdaaGreatDoorVO
import Derived.Test.YtdbcbclapipgdaaGreatDoorJ
import Derived.Test.YtdbcbclapipgdaaGreatDoorC8
set_option linter.unusedVariables false
set_option linter.unusedSimpArgs false
namespace Go.Proofs.YtdbcbclapipgdaaGreatDoor
open Go Av
set_option maxRecDepth 20000
set_option maxHeartbeats 8000000 in
theorem ac_fcheck (sr tg li sq fl nu er sx rk ep : Int) (dt : ByteArray) (x : Bool) (hx : okC sr tg li sq fl nu er sx rk ep = x) : ACalls Tryz.prog 100 [.agg #[.int .i64 3, .int .i64 sr, .int .i64 tg, .int .i64 li, .int .i64 sq, .int .i64 fl, .int .i64 nu, .int .i64 er, .int .i64 sx, .int .i64 rk, .int .i64 ep, .string dt]] [] (.int .i64 (if x = true then 0 else 1)) [] := by
  cases x
  · have hx := of_decide_eq_false hx
    obtain ⟨y, hy⟩ : ∃ y, decide (tg = -1 ∧ (0 ≤ sx ∧ sx ≤ 109951162) ∧ (0 ≤ rk ∧ rk ≤ 65535) ∧ (0 ≤ ep ∧ ep ≤ 65535)) = y := ⟨_, rfl⟩
    have H := ac_fields sr tg li sq fl nu er sx rk ep dt y hy
    cases y
    all_goals refine acalls_law Tryz.func100 rfl rfl rfl ?_
    repeat' first | intro h1 | refine st (h := ok_not_dec2 rfl) ?_ | refine st ?_ | refine st_call (H) ?_ | refine st_call (ac_in _ _) ?_ | refine stm ?_ | refine Ja ?_ | refine Jb ?_ | refine Ji ?_ ?_ | refine run_nil ?_ | refine Jz ?_ | refine Jw ?_ | refine Jq ?_ | refine Ju ?_ ?_ | refine Jy ?_ | refine aw_ret ?_ | refine pp_ret ?_
    all_goals first | rfl | (exfalso; simp only [Bool.not_eq_true', Bool.not_eq_false', decide_eq_true_eq, decide_eq_false_iff_not, Bool.not_false, Bool.not_true] at *; omega)
  · have hx := of_decide_eq_true hx
    obtain ⟨y, hy⟩ : ∃ y, decide (tg = -1 ∧ (0 ≤ sx ∧ sx ≤ 109951162) ∧ (0 ≤ rk ∧ rk ≤ 65535) ∧ (0 ≤ ep ∧ ep ≤ 65535)) = y := ⟨_, rfl⟩
    have H := ac_fields sr tg li sq fl nu er sx rk ep dt y hy
    cases y
    all_goals refine acalls_law Tryz.func100 rfl rfl rfl ?_
    repeat' first | intro h1 | refine st (h := ok_not_dec2 rfl) ?_ | refine st ?_ | refine st_call (H) ?_ | refine st_call (ac_in _ _) ?_ | refine stm ?_ | refine Ja ?_ | refine Jb ?_ | refine Jf ?_ | refine Ji ?_ ?_ | refine run_nil ?_ | refine Jz ?_ | refine Jw ?_ | refine Jq ?_ | refine Jt ?_ | refine Jy ?_ | refine aw_ret ?_ | refine pp_ret ?_
    all_goals first | rfl | (exfalso; simp only [Bool.not_eq_true', Bool.not_eq_false', decide_eq_true_eq, decide_eq_false_iff_not, Bool.not_false, Bool.not_true] at *; omega) | (exfalso; simp only [Bool.not_eq_true', Bool.not_eq_false', decide_eq_true_eq, decide_eq_false_iff_not, Bool.not_false, Bool.not_true, eq_self, true_and, and_true, Classical.not_not, not_true_eq_false, not_false_eq_true] at *; omega)
theorem ac_is (kd sr tg li sq fl nu er sx rk ep : Int) (dt : ByteArray) (x : Bool) (hx : isC kd sr tg li sq fl nu er sx rk ep = x) : ACalls Tryz.prog 115 [.agg #[.int .i64 kd, .int .i64 sr, .int .i64 tg, .int .i64 li, .int .i64 sq, .int .i64 fl, .int .i64 nu, .int .i64 er, .int .i64 sx, .int .i64 rk, .int .i64 ep, .string dt]] [] (.bool x) [] := by
  unfold isC at hx
  by_cases hk : kd = 3
  · subst hk
    obtain ⟨y, hy⟩ : ∃ y, okC sr tg li sq fl nu er sx rk ep = y := ⟨_, rfl⟩
    have H := ac_fcheck sr tg li sq fl nu er sx rk ep dt y hy
    obtain rfl : x = y := by rw [← hx, hy]; rfl
    cases x
    · replace H : ACalls Tryz.prog 100 [.agg #[.int .i64 3, .int .i64 sr, .int .i64 tg, .int .i64 li, .int .i64 sq, .int .i64 fl, .int .i64 nu, .int .i64 er, .int .i64 sx, .int .i64 rk, .int .i64 ep, .string dt]] [] (.int .i64 1) [] := H
      refine acalls_law Tryz.func115 rfl rfl rfl ?_
      repeat' first | refine st ?_ | refine st_call (H) ?_ | refine stm ?_ | refine Ja ?_ | refine run_nil ?_ | refine Jz ?_ | refine Jw ?_ | refine aw_ret ?_ | refine pp_ret ?_
      all_goals first | rfl
    · replace H : ACalls Tryz.prog 100 [.agg #[.int .i64 3, .int .i64 sr, .int .i64 tg, .int .i64 li, .int .i64 sq, .int .i64 fl, .int .i64 nu, .int .i64 er, .int .i64 sx, .int .i64 rk, .int .i64 ep, .string dt]] [] (.int .i64 0) [] := H
      refine acalls_law Tryz.func115 rfl rfl rfl ?_
      repeat' first | refine st ?_ | refine st_call (H) ?_ | refine stm ?_ | refine Ja ?_ | refine run_nil ?_ | refine Jz ?_ | refine Jw ?_ | refine aw_ret ?_ | refine pp_ret ?_
      all_goals first | rfl
  · obtain rfl : x = false := by rw [← hx, decide_eq_false hk]; rfl
    refine acalls_law Tryz.func115 rfl rfl rfl ?_
    repeat' first | refine st ?_ | refine stm ?_ | refine Jb ?_ | refine Je ?_ | refine run_nil ?_ | refine Jz ?_ | refine Jw ?_ | refine aw_ret ?_ | refine pp_ret ?_
    all_goals first | rfl
set_option maxHeartbeats 8000000 in
theorem ac_better (kd sr tg li sq fl nu er sx rk ep : Int) (dt : ByteArray) (kd' sr' tg' li' sq' fl' nu' er' sx' rk' ep' : Int) (dt' : ByteArray) (i j x : Bool) (hi : isC kd sr tg li sq fl nu er sx rk ep = i) (hj : isC kd' sr' tg' li' sq' fl' nu' er' sx' rk' ep' = j) (hx : betC i j ep rk sr ep' rk' sr' = x) : ACalls Tryz.prog 81 [.agg #[.int .i64 kd, .int .i64 sr, .int .i64 tg, .int .i64 li, .int .i64 sq, .int .i64 fl, .int .i64 nu, .int .i64 er, .int .i64 sx, .int .i64 rk, .int .i64 ep, .string dt], .agg #[.int .i64 kd', .int .i64 sr', .int .i64 tg', .int .i64 li', .int .i64 sq', .int .i64 fl', .int .i64 nu', .int .i64 er', .int .i64 sx', .int .i64 rk', .int .i64 ep', .string dt']] [] (.bool x) [] := by
  have H1 := ac_is kd sr tg li sq fl nu er sx rk ep dt i hi
  have H2 := ac_is kd' sr' tg' li' sq' fl' nu' er' sx' rk' ep' dt' j hj
  clear hi hj
  cases i
  · obtain rfl : x = false := hx.symm
    refine acalls_law Tryz.func81 rfl rfl rfl ?_
    repeat' first | refine st ?_ | refine st_call (H1) ?_ | refine stm ?_ | refine Jb ?_ | refine run_nil ?_ | refine Jz ?_ | refine Jw ?_ | refine aw_block ?_ | refine Jq ?_ | refine aw_ret ?_ | refine pp_ret ?_
    all_goals first | rfl
  · cases j
    · obtain rfl : x = false := hx.symm
      refine acalls_law Tryz.func81 rfl rfl rfl ?_
      repeat' first | refine st ?_ | refine st_call (H1) ?_ | refine st_call (H2) ?_ | refine stm ?_ | refine Ja ?_ | refine run_nil ?_ | refine Jz ?_ | refine Jw ?_ | refine aw_block ?_ | refine Jq ?_ | refine aw_ret ?_ | refine pp_ret ?_
      all_goals first | rfl
    · replace hx : decide (ep > ep' ∨ (ep = ep' ∧ (rk < rk' ∨ (rk = rk' ∧ sr < sr')))) = x := hx
      refine acalls_law Tryz.func81 rfl rfl rfl ?_
      repeat' first | intro h1 | refine st ?_ | refine st_call (H1) ?_ | refine st_call (H2) ?_ | refine stm ?_ | refine Ja ?_ | refine run_nil ?_ | refine Jz ?_ | refine Jw ?_ | refine aw_block ?_ | refine Jr ?_ | refine Ju ?_ ?_ | refine Jy ?_ | refine aw_ret ?_ | refine pp_ret ?_
      all_goals first | (subst hx; show Value.bool _ = Value.bool _; congr 1; first | exact decide_eq_false (by omega) | exact decide_eq_true (by omega) | exact (decide_eq_false (by omega)).symm | exact (decide_eq_true (by omega)).symm | exact decide_eq_decide.2 (by omega))
/-- What Read returns. -/
def readO (b : Bool) (dt : ByteArray) : OfT × Int := if b = true then decO dt else (of0, 1)
set_option maxHeartbeats 4000000 in
theorem ac_read (kd sr tg li sq fl nu er sx rk ep : Int) (dt : ByteArray) (hd : dt.size ≤ 1000) (i : Bool) (hi : isC kd sr tg li sq fl nu er sx rk ep = i) (m : OfT) (x : Int) (n : Nat) (hres : readO i dt = (m, x)) (hn : m.2.2.2.2.2.2.length = n) : ACalls Tryz.prog 80 [.agg #[.int .i64 kd, .int .i64 sr, .int .i64 tg, .int .i64 li, .int .i64 sq, .int .i64 fl, .int .i64 nu, .int .i64 er, .int .i64 sx, .int .i64 rk, .int .i64 ep, .string dt]] [] (.tuple #[.agg #[.int .i64 m.1, .bool m.2.1, .string m.2.2.1, .int .i64 m.2.2.2.1, .int .i64 m.2.2.2.2.1, .int .i64 m.2.2.2.2.2.1, .slice (some ⟨0, 0, none⟩) n n], .int .i64 x]) [some ⟨List.map (Value.int .i64) m.2.2.2.2.2.2, true, 1⟩] := by
  have H1 := ac_is kd sr tg li sq fl nu er sx rk ep dt i hi
  clear hi
  cases i
  · obtain ⟨rfl, rfl⟩ := Prod.mk.inj hres.symm
    obtain rfl : n = 0 := hn.symm
    clear hres hn
    refine acalls_of_aw Tryz.func80 rfl rfl ?_
    refine aw_ghost 1 rfl ?_
    repeat' first | refine st ?_ | refine st_call (H1) ?_ | refine stm ?_ | refine run_nil ?_ | refine Jz ?_ | refine Jw ?_ | refine Jq ?_ | refine aw_ret ?_
    all_goals first | (refine pmw_ret _ (renumA [0]) ?_; exact Wk.tupleL (.cons (Wk.aggL (.cons (.refl _) (.cons (.refl _) (.cons (.refl _) (.cons (.refl _) (.cons (.refl _) (.cons (.refl _) (.cons .nil .nil)))))))) (.cons (.refl _) .nil)))
  · have H2 := ac_odecode dt hd m x n hres hn
    clear hres
    refine acalls_of_aw Tryz.func80 rfl rfl ?_
    repeat' first | refine st ?_ | refine st_call (H1) ?_ | refine stMW [] H2 ?_ | refine stm ?_ | refine run_nil ?_ | refine Jz ?_ | refine Jw ?_ | refine Jr ?_ | refine Jy ?_ | refine aw_ret ?_
    all_goals first | exact pm_ret _ (renumD [2]) rfl
/-- A frame: kind, source, target, list, sequence, flow, number, error, slot, rank, epoch, data. -/
abbrev FrT := Int × Int × Int × Int × Int × Int × Int × Int × Int × Int × Int × ByteArray
def frV (m : FrT) : Value := .agg #[.int .i64 m.1, .int .i64 m.2.1, .int .i64 m.2.2.1, .int .i64 m.2.2.2.1, .int .i64 m.2.2.2.2.1, .int .i64 m.2.2.2.2.2.1, .int .i64 m.2.2.2.2.2.2.1, .int .i64 m.2.2.2.2.2.2.2.1, .int .i64 m.2.2.2.2.2.2.2.2.1, .int .i64 m.2.2.2.2.2.2.2.2.2.1, .int .i64 m.2.2.2.2.2.2.2.2.2.2.1, .string m.2.2.2.2.2.2.2.2.2.2.2]
def fr0 : FrT := (0, 0, 0, 0, 0, 0, 0, 0, 0, 0, 0, ⟨#[]⟩)
/-- What Make returns. -/
def mkF (nd epo rnk li sq sx : Int) (x : Int) (w : ByteArray) : FrT × Int := if x ≠ 0 then (fr0, x) else if 65535 ≤ rnk then (fr0, 12) else if okC nd (-1) li sq 0 0 0 sx rnk epo = true then ((3, nd, -1, li, sq, 0, 0, 0, sx, rnk, epo, w), 0) else (fr0, 1)
set_option maxHeartbeats 8000000 in
theorem ac_make (nd epo pa he rnk le : Int) (li sq sx : Int) (root : Int) (op : Bool) (run : ByteArray) (v f u : Int) (C : List Int) (n : Nat) (hn : C.length = n) (hb : n ≤ 9000000000000000000) (x : Int) (hx : chkO root run v f u C = x) (m : FrT) (y : Int) (hm : mkF nd epo rnk li sq sx x (pkB (ofB root op run v f u C)) = (m, y)) : ACalls Tryz.prog 94 [.agg #[.int .i64 nd, .int .i64 epo, .int .i64 pa, .int .i64 he, .int .i64 rnk, .int .i64 le], .int .i64 li, .int .i64 sq, .int .i64 sx, .agg #[.int .i64 root, .bool op, .string run, .int .i64 v, .int .i64 f, .int .i64 u, .slice (some ⟨0, 0, none⟩) n n]] [some ⟨List.map (Value.int .i64) C, false, 1⟩] (.tuple #[frV m, .int .i64 y]) [none] := by
  unfold mkF at hm
  by_cases hx0 : x = 0
  · subst hx0
    have H1 := ac_oencode0 root op run v f u C n hn hb hx
    rw [if_neg (by simp)] at hm
    generalize pkB (ofB root op run v f u C) = w at H1 hm
    by_cases hr : 65535 ≤ rnk
    · rw [if_pos hr] at hm
      obtain ⟨rfl, rfl⟩ := Prod.mk.inj hm.symm
      refine acalls_law Tryz.func94 rfl rfl rfl ?_
      repeat' first | intro h1 | refine st ?_ | refine stRW [0] H1 ?_ | refine sdRW [0] H1 ?_ | refine st_call (H2) ?_ | refine sd_call (H2) ?_ | refine stm ?_ | refine Ja ?_ | refine Jb ?_ | refine Jc ?_ | refine Jd ?_ | refine Je ?_ | refine Jf ?_ | refine Jg ?_ | refine Jh ?_ ?_ | refine Ji ?_ ?_ | refine Jj ?_ ?_ | refine run_nil ?_ | refine Jz ?_ | refine Jw ?_ | refine aw_block ?_ | refine Jq ?_ | refine Jr ?_ | refine Js ?_ | refine Jt ?_ | refine Ju ?_ ?_ | refine Jv ?_ ?_ | refine Jy ?_ | refine aw_exit ?_ | refine aw_ret ?_ | refine pp_ret ?_ | refine pp_normal ?_
      all_goals first | rfl | (exfalso; omega) | (simp [retOf]; done) | (exfalso; simp_all; done)
    · rw [if_neg hr] at hm
      obtain ⟨z, hz⟩ : ∃ z, okC nd (-1) li sq 0 0 0 sx rnk epo = z := ⟨_, rfl⟩
      have H2 := ac_fcheck nd (-1) li sq 0 0 0 sx rnk epo w z hz
      rw [hz] at hm
      cases z
      · rw [if_neg (by simp)] at hm
        obtain ⟨rfl, rfl⟩ := Prod.mk.inj hm.symm
        replace H2 : ACalls Tryz.prog 100 [.agg #[.int .i64 3, .int .i64 nd, .int .i64 (-1), .int .i64 li, .int .i64 sq, .int .i64 0, .int .i64 0, .int .i64 0, .int .i64 sx, .int .i64 rnk, .int .i64 epo, .string w]] [] (.int .i64 1) [] := H2
        refine acalls_law Tryz.func94 rfl rfl rfl ?_
        repeat' first | intro h1 | refine st ?_ | refine stRW [0] H1 ?_ | refine sdRW [0] H1 ?_ | refine st_call (H2) ?_ | refine sd_call (H2) ?_ | refine stm ?_ | refine Ja ?_ | refine Jb ?_ | refine Jc ?_ | refine Jd ?_ | refine Je ?_ | refine Jf ?_ | refine Jg ?_ | refine Jh ?_ ?_ | refine Ji ?_ ?_ | refine Jj ?_ ?_ | refine run_nil ?_ | refine Jz ?_ | refine Jw ?_ | refine aw_block ?_ | refine Jq ?_ | refine Jr ?_ | refine Js ?_ | refine Jt ?_ | refine Ju ?_ ?_ | refine Jv ?_ ?_ | refine Jy ?_ | refine aw_exit ?_ | refine aw_ret ?_ | refine pp_ret ?_ | refine pp_normal ?_
        all_goals first | rfl | (exfalso; omega) | (simp [retOf]; done) | (exfalso; simp_all; done)
      · rw [if_pos rfl] at hm
        obtain ⟨rfl, rfl⟩ := Prod.mk.inj hm.symm
        replace H2 : ACalls Tryz.prog 100 [.agg #[.int .i64 3, .int .i64 nd, .int .i64 (-1), .int .i64 li, .int .i64 sq, .int .i64 0, .int .i64 0, .int .i64 0, .int .i64 sx, .int .i64 rnk, .int .i64 epo, .string w]] [] (.int .i64 0) [] := H2
        refine acalls_law Tryz.func94 rfl rfl rfl ?_
        repeat' first | intro h1 | refine st ?_ | refine stRW [0] H1 ?_ | refine sdRW [0] H1 ?_ | refine st_call (H2) ?_ | refine sd_call (H2) ?_ | refine stm ?_ | refine Ja ?_ | refine Jb ?_ | refine Jc ?_ | refine Jd ?_ | refine Je ?_ | refine Jf ?_ | refine Jg ?_ | refine Jh ?_ ?_ | refine Ji ?_ ?_ | refine Jj ?_ ?_ | refine run_nil ?_ | refine Jz ?_ | refine Jw ?_ | refine aw_block ?_ | refine Jq ?_ | refine Jr ?_ | refine Js ?_ | refine Jt ?_ | refine Ju ?_ ?_ | refine Jv ?_ ?_ | refine Jy ?_ | refine aw_exit ?_ | refine aw_ret ?_ | refine pp_ret ?_ | refine pp_normal ?_
        all_goals first | rfl | (exfalso; omega) | (simp [retOf]; done) | (exfalso; simp_all; done)
  · have H1 := ac_oencodeE root op run v f u C n hn hb x hx hx0
    rw [if_pos hx0] at hm
    obtain ⟨rfl, rfl⟩ := Prod.mk.inj hm.symm
    refine acalls_law Tryz.func94 rfl rfl rfl ?_
    repeat' first | intro h1 | refine st ?_ | refine stRW [0] H1 ?_ | refine sdRW [0] H1 ?_ | refine st_call (H2) ?_ | refine sd_call (H2) ?_ | refine stm ?_ | refine Ja ?_ | refine Jb ?_ | refine Jc ?_ | refine Jd ?_ | refine Je ?_ | refine Jf ?_ | refine Jg ?_ | refine Jh ?_ ?_ | refine Ji ?_ ?_ | refine Jj ?_ ?_ | refine run_nil ?_ | refine Jz ?_ | refine Jw ?_ | refine aw_block ?_ | refine Jq ?_ | refine Jr ?_ | refine Js ?_ | refine Jt ?_ | refine Ju ?_ ?_ | refine Jv ?_ ?_ | refine Jy ?_ | refine aw_exit ?_ | refine aw_ret ?_ | refine pp_ret ?_ | refine pp_normal ?_
    all_goals first | rfl | (exfalso; omega) | (simp [retOf]; done) | (exfalso; simp_all; done)
end Go.Proofs.YtdbcbclapipgdaaGreatDoor
