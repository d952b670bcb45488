/- Offers: Decode; Beacons: fields of frames; Beacons: frames checked; Beacons: frames checked by the reference; Beacons: which frames they are, and which is better; Beacons: read; Beacons: made. -/
import Derived.Test.YtdbcbclapipgdaaGreatDoorVO
import Derived.Test.YtdbcbclapipgdaaGreatDoorJ
import Derived.Test.YtdbcbclapipgdaaGreatDoorC12
set_option linter.unusedVariables false
set_option linter.unusedSimpArgs false
namespace Go.Proofs.YtdbcbclapipgdaaGreatDoor
open Go Av
set_option maxRecDepth 20000
set_option maxHeartbeats 8000000 in
theorem ac_odecode (d : ByteArray) (hd : d.size ≤ 1000) (m : OfT) (x : Int) (n : Nat) (hres : decO d = (m, x)) (hn : m.2.2.2.2.2.2.length = n) : ACalls Tryz.prog 116 [.string d] [] (.tuple #[.agg #[.int .i64 m.1, .bool m.2.1, .string m.2.2.1, .int .i64 m.2.2.2.1, .int .i64 m.2.2.2.2.1, .int .i64 m.2.2.2.2.2.1, .slice (some ⟨0, 0, none⟩) n n], .int .i64 x]) [some ⟨List.map (Value.int .i64) m.2.2.2.2.2.2, true, 1⟩] := by
  obtain ⟨root, a1, e1, h1⟩ : ∃ x y z, unsR d 0 0 5 = (x, y, z) := ⟨_, _, _, rfl⟩
  obtain ⟨op, a2, e2, h2⟩ : ∃ x y z, flgR d a1 e1 = (x, y, z) := ⟨_, _, _, rfl⟩
  obtain ⟨run, a3, e3, h3⟩ : ∃ x y z, txtR d a2 e2 8 = (x, y, z) := ⟨_, _, _, rfl⟩
  obtain ⟨fl, a4, e4, h4⟩ : ∃ x y z, flgR d a3 e3 = (x, y, z) := ⟨_, _, _, rfl⟩
  have l1 := unsR_le h1 (Nat.zero_le _) (by decide)
  have l2 := flgR_le h2 l1
  have l3 := txtR_le h3 l2 (by decide)
  have l4 := flgR_le h4 l3
  have H0 := ac_newR d (by omega)
  have H1 := ac_unsR 5 0 e1 root 0 a1 d h1 (Nat.zero_le _) (by omega) (by decide)
  have H2 := ac_flgR e1 e2 op a1 a2 d h2 l1 (by omega)
  have H3 := ac_txtR 8 e2 e3 run a2 a3 d h3 l2 (by omega) (by decide)
  have H4 := ac_flgR e3 e4 fl a3 a4 d h4 l3 (by omega)
  cases fl
  · skip
    have hread : rdO d = ((root, op, run, 0, 0, 0, []), a4, e4) := by
      unfold rdO u_ f_ t_
      dsimp only
      rw [h1]; dsimp only
      rw [h2]; dsimp only
      rw [h3]; dsimp only
      rw [h4]; dsimp only
      rw [if_neg (by decide)]
    have H8 := ac_closeR e4 _ a4 d rfl l4 (by omega)
    obtain ⟨z, hz⟩ : ∃ z, closeR d a4 e4 = z := ⟨_, rfl⟩
    rw [hz] at H8
    obtain ⟨y, hy⟩ : ∃ y, chkO root run 0 0 0 [] = y := ⟨_, rfl⟩
    have H9 := ac_ocheck root op run 0 0 0 [] 0 rfl (by decide) y hy
    by_cases hz0 : z = 0
    · subst hz0
      by_cases hy0 : y = 0
      · subst hy0
        rw [dec_good hread hz hy] at hres
        obtain ⟨rfl, rfl⟩ := Prod.mk.inj hres.symm
        obtain rfl : n = 0 := hn.symm
        clear hread h1 h2 h3 h4 hy hz hres l1 l2 l3 l4 hn
        dsimp only
        refine acalls_of_aw Tryz.func116 rfl rfl ?_
        refine aw_ghost 1 rfl ?_
        repeat' first | intro h1 | refine st ?_ | refine stMW [] H0 ?_ | refine stMW [2] H1 ?_ | refine stMW [2] H2 ?_ | refine stMW [2] H3 ?_ | refine stMW [2] H4 ?_ | refine stRW [2] H8 ?_ | refine stRW [0] H9 ?_ | refine st (h := ok_makeFunc (by ((repeat (apply ArgsR.cons; rfl)); exact ArgsR.nil)) (by ((repeat (apply ArgsR.cons; rfl)); exact ArgsR.nil))) ?_ | refine stm ?_ | refine Ja ?_ | refine Jb ?_ | refine Jc ?_ | refine Jd ?_ | refine Je ?_ | refine Jf ?_ | refine Jg ?_ | refine Jh ?_ ?_ | refine Ji ?_ ?_ | refine Jj ?_ ?_ | refine run_nil ?_ | refine Jz ?_ | refine Jw ?_ | refine aw_block ?_ | refine Jq ?_ | refine Jr ?_ | refine Js ?_ | refine Jt ?_ | refine Ju ?_ ?_ | refine Jv ?_ ?_ | refine Jy ?_ | refine aw_exit ?_ | refine aw_ret ?_ | refine pp_ret ?_ | refine pp_normal ?_
        all_goals first | (refine pmw_ret _ (renumA [0]) ?_; exact Wk.tupleL (.cons (Wk.aggL (.cons (.refl _) (.cons (.refl _) (.cons (.refl _) (.cons (.refl _) (.cons (.refl _) (.cons (.refl _) (.cons .nil .nil)))))))) (.cons (.refl _) .nil))) | (exfalso; omega) | (exfalso; simp_all; done)
      · rw [dec_bad2 hread hz (fun h => hy0 (hy.symm.trans h))] at hres
        obtain ⟨rfl, rfl⟩ := Prod.mk.inj hres.symm
        obtain rfl : n = 0 := hn.symm
        clear hread h1 h2 h3 h4 hy hz hres l1 l2 l3 l4 hn
        refine acalls_of_aw Tryz.func116 rfl rfl ?_
        refine aw_ghost 1 rfl ?_
        repeat' first | intro h1 | refine st ?_ | refine stMW [] H0 ?_ | refine stMW [2] H1 ?_ | refine stMW [2] H2 ?_ | refine stMW [2] H3 ?_ | refine stMW [2] H4 ?_ | refine stRW [2] H8 ?_ | refine stRW [0] H9 ?_ | refine st (h := ok_makeFunc (by ((repeat (apply ArgsR.cons; rfl)); exact ArgsR.nil)) (by ((repeat (apply ArgsR.cons; rfl)); exact ArgsR.nil))) ?_ | refine stm ?_ | refine Ja ?_ | refine Jb ?_ | refine Jc ?_ | refine Jd ?_ | refine Je ?_ | refine Jf ?_ | refine Jg ?_ | refine Jh ?_ ?_ | refine Ji ?_ ?_ | refine Jj ?_ ?_ | refine run_nil ?_ | refine Jz ?_ | refine Jw ?_ | refine aw_block ?_ | refine Jq ?_ | refine Jr ?_ | refine Js ?_ | refine Jt ?_ | refine Ju ?_ ?_ | refine Jv ?_ ?_ | refine Jy ?_ | refine aw_exit ?_ | refine aw_ret ?_ | refine pp_ret ?_ | refine pp_normal ?_
        all_goals first | (refine pmw_ret _ (renumA [0]) ?_; exact Wk.tupleL (.cons (Wk.aggL (.cons (.refl _) (.cons (.refl _) (.cons (.refl _) (.cons (.refl _) (.cons (.refl _) (.cons (.refl _) (.cons .nil .nil)))))))) (.cons (.refl _) .nil))) | (exfalso; omega) | (exfalso; simp_all; done)
    · rw [dec_bad1 hread (by rw [hz]; exact hz0)] at hres
      obtain ⟨rfl, rfl⟩ := Prod.mk.inj hres.symm
      obtain rfl : n = 0 := hn.symm
      clear hread h1 h2 h3 h4 hy hz hres l1 l2 l3 l4 hn
      refine acalls_of_aw Tryz.func116 rfl rfl ?_
      refine aw_ghost 1 rfl ?_
      repeat' first | intro h1 | refine st ?_ | refine stMW [] H0 ?_ | refine stMW [2] H1 ?_ | refine stMW [2] H2 ?_ | refine stMW [2] H3 ?_ | refine stMW [2] H4 ?_ | refine stRW [2] H8 ?_ | refine stRW [0] H9 ?_ | refine st (h := ok_makeFunc (by ((repeat (apply ArgsR.cons; rfl)); exact ArgsR.nil)) (by ((repeat (apply ArgsR.cons; rfl)); exact ArgsR.nil))) ?_ | refine stm ?_ | refine Ja ?_ | refine Jb ?_ | refine Jc ?_ | refine Jd ?_ | refine Je ?_ | refine Jf ?_ | refine Jg ?_ | refine Jh ?_ ?_ | refine Ji ?_ ?_ | refine Jj ?_ ?_ | refine run_nil ?_ | refine Jz ?_ | refine Jw ?_ | refine aw_block ?_ | refine Jq ?_ | refine Jr ?_ | refine Js ?_ | refine Jt ?_ | refine Ju ?_ ?_ | refine Jv ?_ ?_ | refine Jy ?_ | refine aw_exit ?_ | refine aw_ret ?_ | refine pp_ret ?_ | refine pp_normal ?_
      all_goals first | (refine pmw_ret _ (renumA [0]) ?_; exact Wk.tupleL (.cons (Wk.aggL (.cons (.refl _) (.cons (.refl _) (.cons (.refl _) (.cons (.refl _) (.cons (.refl _) (.cons (.refl _) (.cons .nil .nil)))))))) (.cons (.refl _) .nil))) | (exfalso; omega) | (exfalso; simp_all; done)
  · skip
    obtain ⟨v, a5, e5, h5⟩ : ∃ x y z, unsR d a4 e4 8 = (x, y, z) := ⟨_, _, _, rfl⟩
    obtain ⟨f, a6, e6, h6⟩ : ∃ x y z, unsR d a5 e5 27 = (x, y, z) := ⟨_, _, _, rfl⟩
    obtain ⟨u, a7, e7, h7⟩ : ∃ x y z, unsR d a6 e6 27 = (x, y, z) := ⟨_, _, _, rfl⟩
    obtain ⟨p, a8, e8, h8⟩ : ∃ x y z, unsR d a7 e7 4 = (x, y, z) := ⟨_, _, _, rfl⟩
    have l5 := unsR_le h5 l4 (by decide)
    have l6 := unsR_le h6 l5 (by decide)
    have l7 := unsR_le h7 l6 (by decide)
    have l8 := unsR_le h8 l7 (by decide)
    have hp := unsR_rng h8 (by decide)
    rw [show ((2 : Int) ^ (4 : Int).toNat) = 16 from rfl] at hp
    obtain ⟨N, hN⟩ : ∃ N : Nat, p + 1 = N := ⟨(p + 1).toNat, by omega⟩
    obtain ⟨C, a9, e9, h9⟩ : ∃ x y z, chR d a8 e8 N = (x, y, z) := ⟨_, _, _, rfl⟩
    have l9 := chR_le h9 l8
    have hCl := chR_len h9
    have hread : rdO d = ((root, op, run, v, f, u, C), a9, e9) := by
      unfold rdO u_ f_ t_
      dsimp only
      rw [h1]; dsimp only
      rw [h2]; dsimp only
      rw [h3]; dsimp only
      rw [h4]; dsimp only
      rw [if_pos rfl]
      unfold lsH u_
      dsimp only
      rw [h5]; dsimp only
      rw [h6]; dsimp only
      rw [h7]; dsimp only
      rw [h8]; dsimp only
      rw [show (p + 1).toNat = N by omega, h9]
    have H5 := ac_list d (by omega) a4 a5 a6 a7 a8 a9 e4 e5 e6 e7 e8 e9 v f u p C N h5 h6 h7 h8 hN h9 l4
    have HN := ac_none v f u N false (decide_eq_false (by omega))
    obtain ⟨z, hz⟩ : ∃ z, closeR d a9 e9 = z := ⟨_, rfl⟩
    have H8 := ac_closeR e9 z a9 d hz l9 (by omega)
    obtain ⟨y, hy⟩ : ∃ y, chkO root run v f u C = y := ⟨_, rfl⟩
    have H9 := ac_ocheck root op run v f u C N hCl (by omega) y hy
    by_cases hz0 : z = 0
    · subst hz0
      by_cases hy0 : y = 0
      · subst hy0
        rw [dec_good hread hz hy] at hres
        obtain ⟨rfl, rfl⟩ := Prod.mk.inj hres.symm
        obtain rfl : n = N := hn.symm.trans hCl
        clear hread h1 h2 h3 h4 h5 h6 h7 h8 h9 hy hz hres l1 l2 l3 l4 l5 l6 l7 l8 l9 hn hCl
        dsimp only
        refine acalls_of_aw Tryz.func116 rfl rfl ?_
        refine aw_ghost 1 rfl ?_
        repeat' first | intro h1 | refine st ?_ | refine stMW [] H0 ?_ | refine stMW [2] H1 ?_ | refine stMW [2] H2 ?_ | refine stMW [2] H3 ?_ | refine stMW [2] H4 ?_ | refine stMW [2] H5 ?_ | refine stRW [4] HN ?_ | refine stRW [2] H8 ?_ | refine stRW [4] H9 ?_ | refine st (h := ok_makeFunc (by ((repeat (apply ArgsR.cons; rfl)); exact ArgsR.nil)) (by ((repeat (apply ArgsR.cons; rfl)); exact ArgsR.nil))) ?_ | refine stm ?_ | refine Ja ?_ | refine Jb ?_ | refine Jc ?_ | refine Jd ?_ | refine Je ?_ | refine Jf ?_ | refine Jg ?_ | refine Jh ?_ ?_ | refine Ji ?_ ?_ | refine Jj ?_ ?_ | refine run_nil ?_ | refine Jz ?_ | refine Jw ?_ | refine aw_block ?_ | refine Jq ?_ | refine Jr ?_ | refine Js ?_ | refine Jt ?_ | refine Ju ?_ ?_ | refine Jv ?_ ?_ | refine Jy ?_ | refine aw_exit ?_ | refine aw_ret ?_ | refine pp_ret ?_ | refine pp_normal ?_
        all_goals first | exact pm_ret _ (renumD [4]) rfl | (exfalso; omega) | (exfalso; simp_all; done)
      · rw [dec_bad2 hread hz (fun h => hy0 (hy.symm.trans h))] at hres
        obtain ⟨rfl, rfl⟩ := Prod.mk.inj hres.symm
        obtain rfl : n = 0 := hn.symm
        clear hread h1 h2 h3 h4 h5 h6 h7 h8 h9 hy hz hres l1 l2 l3 l4 l5 l6 l7 l8 l9 hn hCl
        refine acalls_of_aw Tryz.func116 rfl rfl ?_
        refine aw_ghost 1 rfl ?_
        repeat' first | intro h1 | refine st ?_ | refine stMW [] H0 ?_ | refine stMW [2] H1 ?_ | refine stMW [2] H2 ?_ | refine stMW [2] H3 ?_ | refine stMW [2] H4 ?_ | refine stMW [2] H5 ?_ | refine stRW [4] HN ?_ | refine stRW [2] H8 ?_ | refine stRW [4] H9 ?_ | refine st (h := ok_makeFunc (by ((repeat (apply ArgsR.cons; rfl)); exact ArgsR.nil)) (by ((repeat (apply ArgsR.cons; rfl)); exact ArgsR.nil))) ?_ | refine stm ?_ | refine Ja ?_ | refine Jb ?_ | refine Jc ?_ | refine Jd ?_ | refine Je ?_ | refine Jf ?_ | refine Jg ?_ | refine Jh ?_ ?_ | refine Ji ?_ ?_ | refine Jj ?_ ?_ | refine run_nil ?_ | refine Jz ?_ | refine Jw ?_ | refine aw_block ?_ | refine Jq ?_ | refine Jr ?_ | refine Js ?_ | refine Jt ?_ | refine Ju ?_ ?_ | refine Jv ?_ ?_ | refine Jy ?_ | refine aw_exit ?_ | refine aw_ret ?_ | refine pp_ret ?_ | refine pp_normal ?_
        all_goals first | (refine pmw_ret _ (renumA [0]) ?_; exact Wk.tupleL (.cons (Wk.aggL (.cons (.refl _) (.cons (.refl _) (.cons (.refl _) (.cons (.refl _) (.cons (.refl _) (.cons (.refl _) (.cons .nil .nil)))))))) (.cons (.refl _) .nil))) | (exfalso; omega) | (exfalso; simp_all; done)
    · rw [dec_bad1 hread (by rw [hz]; exact hz0)] at hres
      obtain ⟨rfl, rfl⟩ := Prod.mk.inj hres.symm
      obtain rfl : n = 0 := hn.symm
      clear hread h1 h2 h3 h4 h5 h6 h7 h8 h9 hy hz hres l1 l2 l3 l4 l5 l6 l7 l8 l9 hn hCl
      refine acalls_of_aw Tryz.func116 rfl rfl ?_
      refine aw_ghost 1 rfl ?_
      repeat' first | intro h1 | refine st ?_ | refine stMW [] H0 ?_ | refine stMW [2] H1 ?_ | refine stMW [2] H2 ?_ | refine stMW [2] H3 ?_ | refine stMW [2] H4 ?_ | refine stMW [2] H5 ?_ | refine stRW [4] HN ?_ | refine stRW [2] H8 ?_ | refine stRW [4] H9 ?_ | refine st (h := ok_makeFunc (by ((repeat (apply ArgsR.cons; rfl)); exact ArgsR.nil)) (by ((repeat (apply ArgsR.cons; rfl)); exact ArgsR.nil))) ?_ | refine stm ?_ | refine Ja ?_ | refine Jb ?_ | refine Jc ?_ | refine Jd ?_ | refine Je ?_ | refine Jf ?_ | refine Jg ?_ | refine Jh ?_ ?_ | refine Ji ?_ ?_ | refine Jj ?_ ?_ | refine run_nil ?_ | refine Jz ?_ | refine Jw ?_ | refine aw_block ?_ | refine Jq ?_ | refine Jr ?_ | refine Js ?_ | refine Jt ?_ | refine Ju ?_ ?_ | refine Jv ?_ ?_ | refine Jy ?_ | refine aw_exit ?_ | refine aw_ret ?_ | refine pp_ret ?_ | refine pp_normal ?_
      all_goals first | (refine pmw_ret _ (renumA [0]) ?_; exact Wk.tupleL (.cons (Wk.aggL (.cons (.refl _) (.cons (.refl _) (.cons (.refl _) (.cons (.refl _) (.cons (.refl _) (.cons (.refl _) (.cons .nil .nil)))))))) (.cons (.refl _) .nil))) | (exfalso; omega) | (exfalso; simp_all; done)
/-- The fields of a beacon are right. -/
def okC (sr tg li sq fl nu er sx rk ep : Int) : Bool := decide (tg = -1 ∧ fl = 0 ∧ nu = 0 ∧ er = 0 ∧ (0 ≤ sx ∧ sx ≤ 109951162) ∧ (0 ≤ rk ∧ rk ≤ 65535) ∧ (0 ≤ ep ∧ ep ≤ 65535) ∧ (0 ≤ sr ∧ sr ≤ 31) ∧ (0 ≤ li ∧ li ≤ 255) ∧ (0 ≤ sq ∧ sq ≤ 255))
/-- A frame is a beacon. -/
def isC (kd sr tg li sq fl nu er sx rk ep : Int) : Bool := decide (kd = 3) && okC sr tg li sq fl nu er sx rk ep
/-- A beacon is better. -/
def betC (i j : Bool) (ep rk sr ep' rk' sr' : Int) : Bool := i && (j && decide (ep > ep' ∨ (ep = ep' ∧ (rk < rk' ∨ (rk = rk' ∧ sr < sr')))))
theorem ac_in (n m : Int) : ACalls Tryz.prog 152 [.int .i64 n, .int .i64 m] [] (.bool (decide (0 ≤ n ∧ n ≤ m))) [] := by
  refine acalls_pure Tryz.func152 rfl rfl rfl ?_
  repeat' first | intro h1 | refine st ?_ | refine stm ?_ | refine Ja ?_ | refine Jb ?_ | refine Jc ?_ | refine Jd ?_ | refine Je ?_ | refine Jf ?_ | refine Jg ?_ | refine Jh ?_ ?_ | refine Ji ?_ ?_ | refine Jj ?_ ?_ | refine run_nil ?_ | refine Jz ?_ | refine Jw ?_ | refine aw_block ?_ | refine Jq ?_ | refine Jr ?_ | refine Js ?_ | refine Jt ?_ | refine Ju ?_ ?_ | refine Jv ?_ ?_ | refine Jy ?_ | refine aw_exit ?_ | refine aw_ret ?_ | refine pp_ret ?_ | refine pp_normal ?_
  all_goals first | rfl | (show Value.bool _ = Value.bool _; congr 1; first | exact decide_eq_false (by omega) | exact decide_eq_true (by omega) | exact (decide_eq_false (by omega)).symm | exact (decide_eq_true (by omega)).symm | exact decide_eq_decide.2 (by omega)) | (exfalso; omega) | (exfalso; simp only [Bool.not_eq_true', Bool.not_eq_false', decide_eq_true_eq, decide_eq_false_iff_not, Bool.not_false, Bool.not_true] at *; omega) | (exfalso; simp_all; first | done | omega)
theorem ac_within (n m : Int) : ACalls Tryz.prog 165 [.int .i64 n, .int .i64 m] [] (.bool (decide (0 ≤ n ∧ n ≤ m))) [] := by
  refine acalls_pure Tryz.func165 rfl rfl rfl ?_
  repeat' first | intro h1 | refine st ?_ | refine stm ?_ | refine Ja ?_ | refine Jb ?_ | refine Jc ?_ | refine Jd ?_ | refine Je ?_ | refine Jf ?_ | refine Jg ?_ | refine Jh ?_ ?_ | refine Ji ?_ ?_ | refine Jj ?_ ?_ | refine run_nil ?_ | refine Jz ?_ | refine Jw ?_ | refine aw_block ?_ | refine Jq ?_ | refine Jr ?_ | refine Js ?_ | refine Jt ?_ | refine Ju ?_ ?_ | refine Jv ?_ ?_ | refine Jy ?_ | refine aw_exit ?_ | refine aw_ret ?_ | refine pp_ret ?_ | refine pp_normal ?_
  all_goals first | rfl | (show Value.bool _ = Value.bool _; congr 1; first | exact decide_eq_false (by omega) | exact decide_eq_true (by omega) | exact (decide_eq_false (by omega)).symm | exact (decide_eq_true (by omega)).symm | exact decide_eq_decide.2 (by omega)) | (exfalso; omega) | (exfalso; simp only [Bool.not_eq_true', Bool.not_eq_false', decide_eq_true_eq, decide_eq_false_iff_not, Bool.not_false, Bool.not_true] at *; omega) | (exfalso; simp_all; first | done | omega)
set_option maxHeartbeats 4000000 in
theorem ac_fields (sr tg li sq fl nu er sx rk ep : Int) (dt : ByteArray) (x : Bool) (hx : decide (tg = -1 ∧ (0 ≤ sx ∧ sx ≤ 109951162) ∧ (0 ≤ rk ∧ rk ≤ 65535) ∧ (0 ≤ ep ∧ ep ≤ 65535)) = x) : ACalls Tryz.prog 151 [.agg #[.int .i64 3, .int .i64 sr, .int .i64 tg, .int .i64 li, .int .i64 sq, .int .i64 fl, .int .i64 nu, .int .i64 er, .int .i64 sx, .int .i64 rk, .int .i64 ep, .string dt]] [] (.tuple #[.agg #[.int .i64 3, .int .i64 sr, .int .i64 tg, .int .i64 li, .int .i64 sq, .int .i64 fl, .int .i64 nu, .int .i64 er, .int .i64 0, .int .i64 0, .int .i64 0, .string .empty], .bool x]) [] := by
  refine acalls_law Tryz.func151 rfl rfl rfl ?_
  repeat' first | intro h1 | refine st ?_ | refine st_call (ac_in _ _) ?_ | refine sd_call (ac_in _ _) ?_ | refine stm ?_ | refine Ja ?_ | refine Jb ?_ | refine Jc ?_ | refine Jd ?_ | refine Je ?_ | refine Jf ?_ | refine Jg ?_ | refine Jh ?_ ?_ | refine Ji ?_ ?_ | refine Jj ?_ ?_ | refine run_nil ?_ | refine Jz ?_ | refine Jw ?_ | refine aw_block ?_ | refine Jq ?_ | refine Jr ?_ | refine Js ?_ | refine Jt ?_ | refine Ju ?_ ?_ | refine Jv ?_ ?_ | refine Jy ?_ | refine aw_exit ?_ | refine aw_ret ?_ | refine pp_ret ?_ | refine pp_normal ?_
  all_goals first | (exfalso; omega) | (exfalso; simp_all; done) | (subst hx; refine congrArg (fun q => Value.tuple #[_, .bool q]) ?_; first | exact decide_eq_false (by omega) | exact decide_eq_true (by omega) | exact (decide_eq_false (by omega)).symm | exact (decide_eq_true (by omega)).symm | exact decide_eq_decide.2 (by omega))
set_option maxHeartbeats 8000000 in
theorem ac_fcheck (sr tg li sq fl nu er sx rk ep : Int) (dt : ByteArray) (x : Bool) (hx : okC sr tg li sq fl nu er sx rk ep = x) : ACalls Tryz.prog 100 [.agg #[.int .i64 3, .int .i64 sr, .int .i64 tg, .int .i64 li, .int .i64 sq, .int .i64 fl, .int .i64 nu, .int .i64 er, .int .i64 sx, .int .i64 rk, .int .i64 ep, .string dt]] [] (.int .i64 (if x = true then 0 else 1)) [] := by
  cases x
  · have hx := of_decide_eq_false hx
    obtain ⟨y, hy⟩ : ∃ y, decide (tg = -1 ∧ (0 ≤ sx ∧ sx ≤ 109951162) ∧ (0 ≤ rk ∧ rk ≤ 65535) ∧ (0 ≤ ep ∧ ep ≤ 65535)) = y := ⟨_, rfl⟩
    have H := ac_fields sr tg li sq fl nu er sx rk ep dt y hy
    cases y
    all_goals refine acalls_law Tryz.func100 rfl rfl rfl ?_
    repeat' first | intro h1 | refine st (h := ok_not_dec2 rfl) ?_ | refine st ?_ | refine st_call (H) ?_ | refine st_call (ac_in _ _) ?_ | refine sd_call (H) ?_ | refine sd_call (ac_in _ _) ?_ | refine stm ?_ | refine Ja ?_ | refine Jb ?_ | refine Jc ?_ | refine Jd ?_ | refine Je ?_ | refine Jf ?_ | refine Jg ?_ | refine Jh ?_ ?_ | refine Ji ?_ ?_ | refine Jj ?_ ?_ | refine run_nil ?_ | refine Jz ?_ | refine Jw ?_ | refine aw_block ?_ | refine Jq ?_ | refine Jr ?_ | refine Js ?_ | refine Jt ?_ | refine Ju ?_ ?_ | refine Jv ?_ ?_ | refine Jy ?_ | refine aw_exit ?_ | refine aw_ret ?_ | refine pp_ret ?_ | refine pp_normal ?_
    all_goals first | rfl | (exfalso; omega) | (exfalso; simp only [Bool.not_eq_true', Bool.not_eq_false', decide_eq_true_eq, decide_eq_false_iff_not, Bool.not_false, Bool.not_true] at *; omega) | (exfalso; simp only [Bool.not_eq_true', Bool.not_eq_false', decide_eq_true_eq, decide_eq_false_iff_not, Bool.not_false, Bool.not_true, eq_self, true_and, and_true, Classical.not_not, not_true_eq_false, not_false_eq_true] at *; omega) | (exfalso; simp_all; done) | (exfalso; simp_all; omega)
  · have hx := of_decide_eq_true hx
    obtain ⟨y, hy⟩ : ∃ y, decide (tg = -1 ∧ (0 ≤ sx ∧ sx ≤ 109951162) ∧ (0 ≤ rk ∧ rk ≤ 65535) ∧ (0 ≤ ep ∧ ep ≤ 65535)) = y := ⟨_, rfl⟩
    have H := ac_fields sr tg li sq fl nu er sx rk ep dt y hy
    cases y
    all_goals refine acalls_law Tryz.func100 rfl rfl rfl ?_
    repeat' first | intro h1 | refine st (h := ok_not_dec2 rfl) ?_ | refine st ?_ | refine st_call (H) ?_ | refine st_call (ac_in _ _) ?_ | refine sd_call (H) ?_ | refine sd_call (ac_in _ _) ?_ | refine stm ?_ | refine Ja ?_ | refine Jb ?_ | refine Jc ?_ | refine Jd ?_ | refine Je ?_ | refine Jf ?_ | refine Jg ?_ | refine Jh ?_ ?_ | refine Ji ?_ ?_ | refine Jj ?_ ?_ | refine run_nil ?_ | refine Jz ?_ | refine Jw ?_ | refine aw_block ?_ | refine Jq ?_ | refine Jr ?_ | refine Js ?_ | refine Jt ?_ | refine Ju ?_ ?_ | refine Jv ?_ ?_ | refine Jy ?_ | refine aw_exit ?_ | refine aw_ret ?_ | refine pp_ret ?_ | refine pp_normal ?_
    all_goals first | rfl | (exfalso; omega) | (exfalso; simp only [Bool.not_eq_true', Bool.not_eq_false', decide_eq_true_eq, decide_eq_false_iff_not, Bool.not_false, Bool.not_true] at *; omega) | (exfalso; simp only [Bool.not_eq_true', Bool.not_eq_false', decide_eq_true_eq, decide_eq_false_iff_not, Bool.not_false, Bool.not_true, eq_self, true_and, and_true, Classical.not_not, not_true_eq_false, not_false_eq_true] at *; omega) | (exfalso; simp_all; done) | (exfalso; simp_all; omega)
set_option maxHeartbeats 8000000 in
theorem ac_rfcheck (sr tg li sq fl nu er sx rk ep : Int) (dt : ByteArray) (x : Bool) (hx : okC sr tg li sq fl nu er sx rk ep = x) : ACalls Tryz.prog 120 [.agg #[.int .i64 3, .int .i64 sr, .int .i64 tg, .int .i64 li, .int .i64 sq, .int .i64 fl, .int .i64 nu, .int .i64 er, .int .i64 sx, .int .i64 rk, .int .i64 ep, .string dt]] [] (.int .i64 (if x = true then 0 else 1)) [] := by
  cases x
  · have hx := of_decide_eq_false hx
    all_goals refine acalls_law Tryz.func120 rfl rfl rfl ?_
    repeat' first | intro h1 | refine st (h := ok_not_dec2 rfl) ?_ | refine sd (h := ok_not_dec2 rfl) ?_ | refine st ?_ | refine st_call (ac_within _ _) ?_ | refine sd_call (ac_within _ _) ?_ | refine stm ?_ | refine Ja ?_ | refine Jb ?_ | refine Jc ?_ | refine Jd ?_ | refine Je ?_ | refine Jf ?_ | refine Jg ?_ | refine Jh ?_ ?_ | refine Ji ?_ ?_ | refine Jj ?_ ?_ | refine run_nil ?_ | refine sd ?_ | refine sdl ?_ | refine sdm (n := 1) ?_ | refine sdm ?_ | refine sdb ?_ | refine Jk ?_ | refine Jl ?_ | refine Jm ?_ | refine Jn ?_ ?_ | refine Jo ?_ ?_ | refine Jp ?_ ?_ | refine rund_nil ?_ | refine Jz ?_ | refine Jw ?_ | refine Jx (id := 1) [0,1,3,0,8,24,0,64,192,0,512,1536,7,4159,12799,32767] 16 ?_ | refine aw_block ?_ | refine Jq ?_ | refine Jr ?_ | refine Js ?_ | refine Jt ?_ | refine Ju ?_ ?_ | refine Jv ?_ ?_ | refine Jy ?_ | refine aw_exit ?_ | refine aw_ret ?_ | refine pp_ret ?_ | refine pp_normal ?_
    all_goals first | rfl | (exfalso; omega) | (exfalso; simp only [Bool.not_eq_true', Bool.not_eq_false', decide_eq_true_eq, decide_eq_false_iff_not, Bool.not_false, Bool.not_true] at *; omega) | (exfalso; simp only [Bool.not_eq_true', Bool.not_eq_false', decide_eq_true_eq, decide_eq_false_iff_not, Bool.not_false, Bool.not_true, eq_self, true_and, and_true, Classical.not_not, not_true_eq_false, not_false_eq_true] at *; omega) | (exfalso; simp_all; done) | (exfalso; simp_all; omega)
  · have hx := of_decide_eq_true hx
    all_goals refine acalls_law Tryz.func120 rfl rfl rfl ?_
    repeat' first | intro h1 | refine st (h := ok_not_dec2 rfl) ?_ | refine sd (h := ok_not_dec2 rfl) ?_ | refine st ?_ | refine st_call (ac_within _ _) ?_ | refine sd_call (ac_within _ _) ?_ | refine stm ?_ | refine Ja ?_ | refine Jb ?_ | refine Jc ?_ | refine Jd ?_ | refine Je ?_ | refine Jf ?_ | refine Jg ?_ | refine Jh ?_ ?_ | refine Ji ?_ ?_ | refine Jj ?_ ?_ | refine run_nil ?_ | refine sd ?_ | refine sdl ?_ | refine sdm (n := 1) ?_ | refine sdm ?_ | refine sdb ?_ | refine Jk ?_ | refine Jl ?_ | refine Jm ?_ | refine Jn ?_ ?_ | refine Jo ?_ ?_ | refine Jp ?_ ?_ | refine rund_nil ?_ | refine Jz ?_ | refine Jw ?_ | refine Jx (id := 1) [0,1,3,0,8,24,0,64,192,0,512,1536,7,4159,12799,32767] 16 ?_ | refine aw_block ?_ | refine Jq ?_ | refine Jr ?_ | refine Js ?_ | refine Jt ?_ | refine Ju ?_ ?_ | refine Jv ?_ ?_ | refine Jy ?_ | refine aw_exit ?_ | refine aw_ret ?_ | refine pp_ret ?_ | refine pp_normal ?_
    all_goals first | rfl | (exfalso; omega) | (exfalso; simp only [Bool.not_eq_true', Bool.not_eq_false', decide_eq_true_eq, decide_eq_false_iff_not, Bool.not_false, Bool.not_true] at *; omega) | (exfalso; simp only [Bool.not_eq_true', Bool.not_eq_false', decide_eq_true_eq, decide_eq_false_iff_not, Bool.not_false, Bool.not_true, eq_self, true_and, and_true, Classical.not_not, not_true_eq_false, not_false_eq_true] at *; omega) | (exfalso; simp_all; done) | (exfalso; simp_all; omega)
theorem ac_is (kd sr tg li sq fl nu er sx rk ep : Int) (dt : ByteArray) (x : Bool) (hx : isC kd sr tg li sq fl nu er sx rk ep = x) : ACalls Tryz.prog 115 [.agg #[.int .i64 kd, .int .i64 sr, .int .i64 tg, .int .i64 li, .int .i64 sq, .int .i64 fl, .int .i64 nu, .int .i64 er, .int .i64 sx, .int .i64 rk, .int .i64 ep, .string dt]] [] (.bool x) [] := by
  unfold isC at hx
  by_cases hk : kd = 3
  · subst hk
    obtain ⟨y, hy⟩ : ∃ y, okC sr tg li sq fl nu er sx rk ep = y := ⟨_, rfl⟩
    have H := ac_fcheck sr tg li sq fl nu er sx rk ep dt y hy
    obtain rfl : x = y := by rw [← hx, hy]; rfl
    cases x
    · replace H : ACalls Tryz.prog 100 [.agg #[.int .i64 3, .int .i64 sr, .int .i64 tg, .int .i64 li, .int .i64 sq, .int .i64 fl, .int .i64 nu, .int .i64 er, .int .i64 sx, .int .i64 rk, .int .i64 ep, .string dt]] [] (.int .i64 1) [] := H
      refine acalls_law Tryz.func115 rfl rfl rfl ?_
      repeat' first | intro h1 | refine st ?_ | refine st_call (H) ?_ | refine sd_call (H) ?_ | refine stm ?_ | refine Ja ?_ | refine Jb ?_ | refine Jc ?_ | refine Jd ?_ | refine Je ?_ | refine Jf ?_ | refine Jg ?_ | refine Jh ?_ ?_ | refine Ji ?_ ?_ | refine Jj ?_ ?_ | refine run_nil ?_ | refine Jz ?_ | refine Jw ?_ | refine aw_block ?_ | refine Jq ?_ | refine Jr ?_ | refine Js ?_ | refine Jt ?_ | refine Ju ?_ ?_ | refine Jv ?_ ?_ | refine Jy ?_ | refine aw_exit ?_ | refine aw_ret ?_ | refine pp_ret ?_ | refine pp_normal ?_
      all_goals first | rfl | (exfalso; omega) | (exfalso; simp only [Bool.not_eq_true', Bool.not_eq_false', decide_eq_true_eq, decide_eq_false_iff_not, Bool.not_false, Bool.not_true] at *; omega) | (exfalso; simp only [Bool.not_eq_true', Bool.not_eq_false', decide_eq_true_eq, decide_eq_false_iff_not, Bool.not_false, Bool.not_true, eq_self, true_and, and_true, Classical.not_not, not_true_eq_false, not_false_eq_true] at *; omega) | (exfalso; simp_all; done) | (exfalso; simp_all; omega)
    · replace H : ACalls Tryz.prog 100 [.agg #[.int .i64 3, .int .i64 sr, .int .i64 tg, .int .i64 li, .int .i64 sq, .int .i64 fl, .int .i64 nu, .int .i64 er, .int .i64 sx, .int .i64 rk, .int .i64 ep, .string dt]] [] (.int .i64 0) [] := H
      refine acalls_law Tryz.func115 rfl rfl rfl ?_
      repeat' first | intro h1 | refine st ?_ | refine st_call (H) ?_ | refine sd_call (H) ?_ | refine stm ?_ | refine Ja ?_ | refine Jb ?_ | refine Jc ?_ | refine Jd ?_ | refine Je ?_ | refine Jf ?_ | refine Jg ?_ | refine Jh ?_ ?_ | refine Ji ?_ ?_ | refine Jj ?_ ?_ | refine run_nil ?_ | refine Jz ?_ | refine Jw ?_ | refine aw_block ?_ | refine Jq ?_ | refine Jr ?_ | refine Js ?_ | refine Jt ?_ | refine Ju ?_ ?_ | refine Jv ?_ ?_ | refine Jy ?_ | refine aw_exit ?_ | refine aw_ret ?_ | refine pp_ret ?_ | refine pp_normal ?_
      all_goals first | rfl | (exfalso; omega) | (exfalso; simp only [Bool.not_eq_true', Bool.not_eq_false', decide_eq_true_eq, decide_eq_false_iff_not, Bool.not_false, Bool.not_true] at *; omega) | (exfalso; simp only [Bool.not_eq_true', Bool.not_eq_false', decide_eq_true_eq, decide_eq_false_iff_not, Bool.not_false, Bool.not_true, eq_self, true_and, and_true, Classical.not_not, not_true_eq_false, not_false_eq_true] at *; omega) | (exfalso; simp_all; done) | (exfalso; simp_all; omega)
  · obtain rfl : x = false := by rw [← hx, decide_eq_false hk]; rfl
    refine acalls_law Tryz.func115 rfl rfl rfl ?_
    repeat' first | intro h1 | refine st ?_ | refine stm ?_ | refine Ja ?_ | refine Jb ?_ | refine Jc ?_ | refine Jd ?_ | refine Je ?_ | refine Jf ?_ | refine Jg ?_ | refine Jh ?_ ?_ | refine Ji ?_ ?_ | refine Jj ?_ ?_ | refine run_nil ?_ | refine Jz ?_ | refine Jw ?_ | refine aw_block ?_ | refine Jq ?_ | refine Jr ?_ | refine Js ?_ | refine Jt ?_ | refine Ju ?_ ?_ | refine Jv ?_ ?_ | refine Jy ?_ | refine aw_exit ?_ | refine aw_ret ?_ | refine pp_ret ?_ | refine pp_normal ?_
    all_goals first | rfl | (exfalso; omega) | (exfalso; simp only [Bool.not_eq_true', Bool.not_eq_false', decide_eq_true_eq, decide_eq_false_iff_not, Bool.not_false, Bool.not_true] at *; omega) | (exfalso; simp only [Bool.not_eq_true', Bool.not_eq_false', decide_eq_true_eq, decide_eq_false_iff_not, Bool.not_false, Bool.not_true, eq_self, true_and, and_true, Classical.not_not, not_true_eq_false, not_false_eq_true] at *; omega) | (exfalso; simp_all; done) | (exfalso; simp_all; omega)
set_option maxHeartbeats 8000000 in
theorem ac_better (kd sr tg li sq fl nu er sx rk ep : Int) (dt : ByteArray) (kd' sr' tg' li' sq' fl' nu' er' sx' rk' ep' : Int) (dt' : ByteArray) (i j x : Bool) (hi : isC kd sr tg li sq fl nu er sx rk ep = i) (hj : isC kd' sr' tg' li' sq' fl' nu' er' sx' rk' ep' = j) (hx : betC i j ep rk sr ep' rk' sr' = x) : ACalls Tryz.prog 81 [.agg #[.int .i64 kd, .int .i64 sr, .int .i64 tg, .int .i64 li, .int .i64 sq, .int .i64 fl, .int .i64 nu, .int .i64 er, .int .i64 sx, .int .i64 rk, .int .i64 ep, .string dt], .agg #[.int .i64 kd', .int .i64 sr', .int .i64 tg', .int .i64 li', .int .i64 sq', .int .i64 fl', .int .i64 nu', .int .i64 er', .int .i64 sx', .int .i64 rk', .int .i64 ep', .string dt']] [] (.bool x) [] := by
  have H1 := ac_is kd sr tg li sq fl nu er sx rk ep dt i hi
  have H2 := ac_is kd' sr' tg' li' sq' fl' nu' er' sx' rk' ep' dt' j hj
  clear hi hj
  cases i
  · obtain rfl : x = false := hx.symm
    refine acalls_law Tryz.func81 rfl rfl rfl ?_
    repeat' first | intro h1 | refine st (h := ok_not_dec2 rfl) ?_ | refine st ?_ | refine st_call (H1) ?_ | refine st_call (H2) ?_ | refine sd_call (H1) ?_ | refine sd_call (H2) ?_ | refine stm ?_ | refine Ja ?_ | refine Jb ?_ | refine Jc ?_ | refine Jd ?_ | refine Je ?_ | refine Jf ?_ | refine Jg ?_ | refine Jh ?_ ?_ | refine Ji ?_ ?_ | refine Jj ?_ ?_ | refine run_nil ?_ | refine Jz ?_ | refine Jw ?_ | refine aw_block ?_ | refine Jq ?_ | refine Jr ?_ | refine Js ?_ | refine Jt ?_ | refine Ju ?_ ?_ | refine Jv ?_ ?_ | refine Jy ?_ | refine aw_exit ?_ | refine aw_ret ?_ | refine pp_ret ?_ | refine pp_normal ?_
    all_goals first | rfl | (exfalso; omega) | (exfalso; simp only [Bool.not_eq_true', Bool.not_eq_false', decide_eq_true_eq, decide_eq_false_iff_not, Bool.not_false, Bool.not_true] at *; omega) | (exfalso; simp only [Bool.not_eq_true', Bool.not_eq_false', decide_eq_true_eq, decide_eq_false_iff_not, Bool.not_false, Bool.not_true, eq_self, true_and, and_true, Classical.not_not, not_true_eq_false, not_false_eq_true] at *; omega) | (exfalso; simp_all; done) | (exfalso; simp_all; omega)
  · cases j
    · obtain rfl : x = false := hx.symm
      refine acalls_law Tryz.func81 rfl rfl rfl ?_
      repeat' first | intro h1 | refine st (h := ok_not_dec2 rfl) ?_ | refine st ?_ | refine st_call (H1) ?_ | refine st_call (H2) ?_ | refine sd_call (H1) ?_ | refine sd_call (H2) ?_ | refine stm ?_ | refine Ja ?_ | refine Jb ?_ | refine Jc ?_ | refine Jd ?_ | refine Je ?_ | refine Jf ?_ | refine Jg ?_ | refine Jh ?_ ?_ | refine Ji ?_ ?_ | refine Jj ?_ ?_ | refine run_nil ?_ | refine Jz ?_ | refine Jw ?_ | refine aw_block ?_ | refine Jq ?_ | refine Jr ?_ | refine Js ?_ | refine Jt ?_ | refine Ju ?_ ?_ | refine Jv ?_ ?_ | refine Jy ?_ | refine aw_exit ?_ | refine aw_ret ?_ | refine pp_ret ?_ | refine pp_normal ?_
      all_goals first | rfl | (exfalso; omega) | (exfalso; simp only [Bool.not_eq_true', Bool.not_eq_false', decide_eq_true_eq, decide_eq_false_iff_not, Bool.not_false, Bool.not_true] at *; omega) | (exfalso; simp only [Bool.not_eq_true', Bool.not_eq_false', decide_eq_true_eq, decide_eq_false_iff_not, Bool.not_false, Bool.not_true, eq_self, true_and, and_true, Classical.not_not, not_true_eq_false, not_false_eq_true] at *; omega) | (exfalso; simp_all; done) | (exfalso; simp_all; omega)
    · replace hx : decide (ep > ep' ∨ (ep = ep' ∧ (rk < rk' ∨ (rk = rk' ∧ sr < sr')))) = x := hx
      refine acalls_law Tryz.func81 rfl rfl rfl ?_
      repeat' first | intro h1 | refine st (h := ok_not_dec2 rfl) ?_ | refine st ?_ | refine st_call (H1) ?_ | refine st_call (H2) ?_ | refine sd_call (H1) ?_ | refine sd_call (H2) ?_ | refine stm ?_ | refine Ja ?_ | refine Jb ?_ | refine Jc ?_ | refine Jd ?_ | refine Je ?_ | refine Jf ?_ | refine Jg ?_ | refine Jh ?_ ?_ | refine Ji ?_ ?_ | refine Jj ?_ ?_ | refine run_nil ?_ | refine Jz ?_ | refine Jw ?_ | refine aw_block ?_ | refine Jq ?_ | refine Jr ?_ | refine Js ?_ | refine Jt ?_ | refine Ju ?_ ?_ | refine Jv ?_ ?_ | refine Jy ?_ | refine aw_exit ?_ | refine aw_ret ?_ | refine pp_ret ?_ | refine pp_normal ?_
      all_goals first | (exfalso; omega) | (exfalso; simp_all; done) | (subst hx; show Value.bool _ = Value.bool _; congr 1; first | exact decide_eq_false (by omega) | exact decide_eq_true (by omega) | exact (decide_eq_false (by omega)).symm | exact (decide_eq_true (by omega)).symm | exact decide_eq_decide.2 (by omega))
/-- What Read returns. -/
def readO (b : Bool) (dt : ByteArray) : OfT × Int := if b = true then decO dt else (of0, 1)
set_option maxHeartbeats 4000000 in
theorem ac_read (kd sr tg li sq fl nu er sx rk ep : Int) (dt : ByteArray) (hd : dt.size ≤ 1000) (i : Bool) (hi : isC kd sr tg li sq fl nu er sx rk ep = i) (m : OfT) (x : Int) (n : Nat) (hres : readO i dt = (m, x)) (hn : m.2.2.2.2.2.2.length = n) : ACalls Tryz.prog 80 [.agg #[.int .i64 kd, .int .i64 sr, .int .i64 tg, .int .i64 li, .int .i64 sq, .int .i64 fl, .int .i64 nu, .int .i64 er, .int .i64 sx, .int .i64 rk, .int .i64 ep, .string dt]] [] (.tuple #[.agg #[.int .i64 m.1, .bool m.2.1, .string m.2.2.1, .int .i64 m.2.2.2.1, .int .i64 m.2.2.2.2.1, .int .i64 m.2.2.2.2.2.1, .slice (some ⟨0, 0, none⟩) n n], .int .i64 x]) [some ⟨List.map (Value.int .i64) m.2.2.2.2.2.2, true, 1⟩] := by
  have H1 := ac_is kd sr tg li sq fl nu er sx rk ep dt i hi
  clear hi
  cases i
  · obtain ⟨rfl, rfl⟩ := Prod.mk.inj hres.symm
    obtain rfl : n = 0 := hn.symm
    clear hres hn
    refine acalls_of_aw Tryz.func80 rfl rfl ?_
    refine aw_ghost 1 rfl ?_
    repeat' first | intro h1 | refine st (h := ok_not_dec2 rfl) ?_ | refine st ?_ | refine st_call (H1) ?_ | refine sd_call (H1) ?_ | refine stm ?_ | refine Ja ?_ | refine Jb ?_ | refine Jc ?_ | refine Jd ?_ | refine Je ?_ | refine Jf ?_ | refine Jg ?_ | refine Jh ?_ ?_ | refine Ji ?_ ?_ | refine Jj ?_ ?_ | refine run_nil ?_ | refine Jz ?_ | refine Jw ?_ | refine aw_block ?_ | refine Jq ?_ | refine Jr ?_ | refine Js ?_ | refine Jt ?_ | refine Ju ?_ ?_ | refine Jv ?_ ?_ | refine Jy ?_ | refine aw_exit ?_ | refine aw_ret ?_ | refine pp_ret ?_ | refine pp_normal ?_
    all_goals first | (refine pmw_ret _ (renumA [0]) ?_; exact Wk.tupleL (.cons (Wk.aggL (.cons (.refl _) (.cons (.refl _) (.cons (.refl _) (.cons (.refl _) (.cons (.refl _) (.cons (.refl _) (.cons .nil .nil)))))))) (.cons (.refl _) .nil))) | (exfalso; omega) | (exfalso; simp_all; done)
  · have H2 := ac_odecode dt hd m x n hres hn
    clear hres
    refine acalls_of_aw Tryz.func80 rfl rfl ?_
    repeat' first | intro h1 | refine st (h := ok_not_dec2 rfl) ?_ | refine st ?_ | refine st_call (H1) ?_ | refine sd_call (H1) ?_ | refine stMW [] H2 ?_ | refine stm ?_ | refine Ja ?_ | refine Jb ?_ | refine Jc ?_ | refine Jd ?_ | refine Je ?_ | refine Jf ?_ | refine Jg ?_ | refine Jh ?_ ?_ | refine Ji ?_ ?_ | refine Jj ?_ ?_ | refine run_nil ?_ | refine Jz ?_ | refine Jw ?_ | refine aw_block ?_ | refine Jq ?_ | refine Jr ?_ | refine Js ?_ | refine Jt ?_ | refine Ju ?_ ?_ | refine Jv ?_ ?_ | refine Jy ?_ | refine aw_exit ?_ | refine aw_ret ?_ | refine pp_ret ?_ | refine pp_normal ?_
    all_goals first | exact pm_ret _ (renumD [2]) rfl | (exfalso; omega) | (exfalso; simp_all; done)
/-- A frame: kind, source, target, list, sequence, flow, number, error, slot, rank, epoch, data. -/
abbrev FrT := Int × Int × Int × Int × Int × Int × Int × Int × Int × Int × Int × ByteArray
def frV (m : FrT) : Value := .agg #[.int .i64 m.1, .int .i64 m.2.1, .int .i64 m.2.2.1, .int .i64 m.2.2.2.1, .int .i64 m.2.2.2.2.1, .int .i64 m.2.2.2.2.2.1, .int .i64 m.2.2.2.2.2.2.1, .int .i64 m.2.2.2.2.2.2.2.1, .int .i64 m.2.2.2.2.2.2.2.2.1, .int .i64 m.2.2.2.2.2.2.2.2.2.1, .int .i64 m.2.2.2.2.2.2.2.2.2.2.1, .string m.2.2.2.2.2.2.2.2.2.2.2]
def fr0 : FrT := (0, 0, 0, 0, 0, 0, 0, 0, 0, 0, 0, ⟨#[]⟩)
/-- What Make returns. -/
def mkF (nd epo rnk li sq sx : Int) (x : Int) (w : ByteArray) : FrT × Int := if x ≠ 0 then (fr0, x) else if 65535 ≤ rnk then (fr0, 12) else if okC nd (-1) li sq 0 0 0 sx rnk epo = true then ((3, nd, -1, li, sq, 0, 0, 0, sx, rnk, epo, w), 0) else (fr0, 1)
end Go.Proofs.YtdbcbclapipgdaaGreatDoor
