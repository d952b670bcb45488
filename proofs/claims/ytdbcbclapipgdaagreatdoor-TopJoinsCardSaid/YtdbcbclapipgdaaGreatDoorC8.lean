/- Offers: hopping lists are read; Offers: Decode; Beacons: fields of frames. -/
import Derived.Test.YtdbcbclapipgdaaGreatDoorVO
import Derived.Test.YtdbcbclapipgdaaGreatDoorJ
import Derived.Test.YtdbcbclapipgdaaGreatDoorC7
set_option linter.unusedVariables false
set_option linter.unusedSimpArgs false
namespace Go.Proofs.YtdbcbclapipgdaaGreatDoor
open Go Av
set_option maxRecDepth 20000
set_option maxHeartbeats 4000000 in
theorem ac_list (d : ByteArray) (hd : d.size ≤ 1000000) (a a1 a2 a3 a4 a5 : Nat) (e e1 e2 e3 e4 e5 v f u p : Int) (C : List Int) (N : Nat) (h1 : unsR d a e 8 = (v, a1, e1)) (h2 : unsR d a1 e1 27 = (f, a2, e2)) (h3 : unsR d a2 e2 27 = (u, a3, e3)) (h4 : unsR d a3 e3 4 = (p, a4, e4)) (hN : p + 1 = (N : Int)) (h5 : chR d a4 e4 N = (C, a5, e5)) (ha : a ≤ 8 * d.size) :
    ACalls Tryz.prog 160 [.func (.func 133) #[.pointer (some ⟨0, 0, none⟩)] #[]] [some ⟨[.string d, .int .i64 (a : Int), .int .i64 e], true, 1⟩] (.agg #[.int .i64 v, .int .i64 f, .int .i64 u, .slice (some ⟨1, 0, none⟩) N N]) [some ⟨[.string d, .int .i64 (a5 : Int), .int .i64 e5], true, 1⟩, some ⟨List.map (Value.int .i64) C, true, 1⟩] := by
  have l1 := unsR_le h1 ha (by decide)
  have l2 := unsR_le h2 l1 (by decide)
  have l3 := unsR_le h3 l2 (by decide)
  have l4 := unsR_le h4 l3 (by decide)
  have hp := unsR_rng h4 (by decide)
  rw [show ((2 : Int) ^ (4 : Int).toNat) = 16 from rfl] at hp
  have H1 := ac_unsR 8 e e1 v a a1 d h1 ha hd (by decide)
  have H2 := ac_unsR 27 e1 e2 f a1 a2 d h2 l1 hd (by decide)
  have H3 := ac_unsR 27 e2 e3 u a2 a3 d h3 l2 hd (by decide)
  have H4 := ac_unsR 4 e3 e4 p a3 a4 d h4 l3 hd (by decide)
  refine acalls_of_aw Tryz.func160 rfl rfl ?_
  refine aw_ghost 1 rfl ?_
  repeat' first | refine st ?_ | refine stMW [0] H1 ?_ | refine stMW [0] H2 ?_ | refine stMW [0] H3 ?_ | refine stMW [0] H4 ?_ | refine stm ?_ | refine run_nil ?_ | refine Jz ?_ | refine Jw ?_ | refine aw_block ?_
  clear H1 H2 H3 H4
  refine aw_loopg
    (S := fun y : Cg => [(0, .func (.func 133) #[.pointer (some ⟨0, 0, none⟩)] #[]), (2, .pointer (some ⟨2, 0, none⟩)), (3, .pointer (some ⟨3, 0, none⟩)), (13, .int .i64 (p + 1)), (14, .int .i64 y.i)])
    (B := fun y : Cg => [some ⟨[.string d, .int .i64 (y.a : Int), .int .i64 y.e], true, 1⟩, some ⟨List.map (Value.int .i64) y.L, true, 1⟩, some ⟨[.int .i64 0, .int .i64 0, .int .i64 0, .slice none 0 0], true, 1⟩, some ⟨[.int .i64 v, .int .i64 f, .int .i64 u, .slice (some ⟨1, 0, none⟩) y.i y.i], true, 1⟩])
    (R := fun y : Cg => y.i ≤ N ∧ chR d a4 e4 y.i = (y.L, y.a, y.e) ∧ y.L.length = y.i ∧ y.a ≤ 8 * d.size)
    (μ := fun y : Cg => N - y.i) ⟨0, [], a4, e4, d, 0⟩ (fitsD [0, 1, 2, 3]) ⟨Nat.zero_le _, rfl, rfl, l4⟩ ?_
  rintro ⟨i, Li, ai, ei, d2, a2⟩ ⟨g1, g2, g3, g4⟩
  dsimp only at *
  by_cases hi : i < N
  · obtain ⟨v1, a6, e6, h6⟩ : ∃ v z e1, unsR d ai ei 4 = (v, z, e1) := ⟨_, _, _, rfl⟩
    have l6 := unsR_le h6 g4 (by decide)
    have hn := chR_succ g2 h6
    have H6 := ac_unsR 4 ei e6 v1 ai a6 d h6 g4 hd (by decide)
    repeat' first | refine Own.sob (n := 1) (h := ok_append (cs := List.map (Value.int .i64) (Li ++ [v1])) (olds := List.map (Value.int .i64) Li) rfl rfl rfl rfl rfl rfl (Src.slc rfl Ty.eq rfl (Nat.le_of_ble_eq_true rfl) rfl rfl rfl) (by simp; omega) (take_full (by simp; omega)) (by rw [List.map_append]; rfl) (by omega) (by (repeat constructor))) ?_ | refine st ?_ | refine Own.soMW [0] H6 ?_ | refine run_nil ?_ | refine Own.so ?_ | refine Own.sol ?_ | refine Own.som (n := 1) ?_ | refine Own.sob ?_ | refine Own.runo_nil ?_ | refine Jz ?_ | refine Jw ?_ | refine aw_region_oC (id := 4) [0, 1, 0, 4, 12, 31, 63, 127] 5 [[], [], [], [0]] (by (repeat constructor)) (by kernel_rfl) (by kernel_rfl) (by kernel_rfl) (by rfl) (by rfl) ?_ | refine aw_block ?_ | refine Js ?_ | refine Jy ?_
    all_goals first | exact Exists.intro ⟨i + 1, Li ++ [v1], a6, e6, d, 0⟩ ⟨fitsD [0, 5, 2, 3], ⟨hi, hn, by rw [List.length_append, g3]; rfl, l6⟩, by dsimp only; omega⟩
  · obtain rfl : i = N := by omega
    rw [g2] at h5
    simp only [Prod.mk.injEq] at h5
    obtain ⟨rfl, rfl, rfl⟩ := h5
    repeat' first | refine st ?_ | refine stm ?_ | refine run_nil ?_ | refine Jz ?_ | refine Jw ?_ | refine Jt ?_ | refine aw_exit ?_ | refine aw_ret ?_
    all_goals first | exact pm_ret _ (renumD [0, 1]) rfl
set_option maxHeartbeats 8000000 in
theorem ac_odecode (d : ByteArray) (hd : d.size ≤ 1000) (m : OfT) (x : Int) (n : Nat) (hres : decO d = (m, x)) (hn : m.2.2.2.2.2.2.length = n) : ACalls Tryz.prog 116 [.string d] [] (.tuple #[.agg #[.int .i64 m.1, .bool m.2.1, .string m.2.2.1, .int .i64 m.2.2.2.1, .int .i64 m.2.2.2.2.1, .int .i64 m.2.2.2.2.2.1, .slice (some ⟨0, 0, none⟩) n n], .int .i64 x]) [some ⟨List.map (Value.int .i64) m.2.2.2.2.2.2, true, 1⟩] := by
  obtain ⟨root, a1, e1, h1⟩ : ∃ x y z, unsR d 0 0 5 = (x, y, z) := ⟨_, _, _, rfl⟩
  obtain ⟨op, a2, e2, h2⟩ : ∃ x y z, flgR d a1 e1 = (x, y, z) := ⟨_, _, _, rfl⟩
  obtain ⟨run, a3, e3, h3⟩ : ∃ x y z, txtR d a2 e2 8 = (x, y, z) := ⟨_, _, _, rfl⟩
  obtain ⟨fl, a4, e4, h4⟩ : ∃ x y z, flgR d a3 e3 = (x, y, z) := ⟨_, _, _, rfl⟩
  have l1 := unsR_le h1 (Nat.zero_le _) (by decide)
  have l2 := flgR_le h2 l1
  have l3 := txtR_le h3 l2 (by decide)
  have l4 := flgR_le h4 l3
  have H0 := ac_newR d (by omega)
  have H1 := ac_unsR 5 0 e1 root 0 a1 d h1 (Nat.zero_le _) (by omega) (by decide)
  have H2 := ac_flgR e1 e2 op a1 a2 d h2 l1 (by omega)
  have H3 := ac_txtR 8 e2 e3 run a2 a3 d h3 l2 (by omega) (by decide)
  have H4 := ac_flgR e3 e4 fl a3 a4 d h4 l3 (by omega)
  cases fl
  · skip
    have hread : rdO d = ((root, op, run, 0, 0, 0, []), a4, e4) := by
      unfold rdO u_ f_ t_
      dsimp only
      rw [h1]; dsimp only
      rw [h2]; dsimp only
      rw [h3]; dsimp only
      rw [h4]; dsimp only
      rw [if_neg (by decide)]
    have H8 := ac_closeR e4 _ a4 d rfl l4 (by omega)
    obtain ⟨z, hz⟩ : ∃ z, closeR d a4 e4 = z := ⟨_, rfl⟩
    rw [hz] at H8
    obtain ⟨y, hy⟩ : ∃ y, chkO root run 0 0 0 [] = y := ⟨_, rfl⟩
    have H9 := ac_ocheck root op run 0 0 0 [] 0 rfl (by decide) y hy
    by_cases hz0 : z = 0
    · subst hz0
      by_cases hy0 : y = 0
      · subst hy0
        rw [dec_good hread hz hy] at hres
        obtain ⟨rfl, rfl⟩ := Prod.mk.inj hres.symm
        obtain rfl : n = 0 := hn.symm
        clear hread h1 h2 h3 h4 hy hz hres l1 l2 l3 l4 hn
        dsimp only
        refine acalls_of_aw Tryz.func116 rfl rfl ?_
        refine aw_ghost 1 rfl ?_
        repeat' first | refine st ?_ | refine stMW [] H0 ?_ | refine stMW [2] H1 ?_ | refine stMW [2] H2 ?_ | refine stMW [2] H3 ?_ | refine stMW [2] H4 ?_ | refine stRW [2] H8 ?_ | refine stRW [0] H9 ?_ | refine stm ?_ | refine Ja ?_ | refine run_nil ?_ | refine Jz ?_ | refine Jw ?_ | refine Jr ?_ | refine Jy ?_ | refine aw_ret ?_
        all_goals first | (refine pmw_ret _ (renumA [0]) ?_; exact Wk.tupleL (.cons (Wk.aggL (.cons (.refl _) (.cons (.refl _) (.cons (.refl _) (.cons (.refl _) (.cons (.refl _) (.cons (.refl _) (.cons .nil .nil)))))))) (.cons (.refl _) .nil)))
      · rw [dec_bad2 hread hz (fun h => hy0 (hy.symm.trans h))] at hres
        obtain ⟨rfl, rfl⟩ := Prod.mk.inj hres.symm
        obtain rfl : n = 0 := hn.symm
        clear hread h1 h2 h3 h4 hy hz hres l1 l2 l3 l4 hn
        refine acalls_of_aw Tryz.func116 rfl rfl ?_
        refine aw_ghost 1 rfl ?_
        repeat' first | refine st ?_ | refine stMW [] H0 ?_ | refine stMW [2] H1 ?_ | refine stMW [2] H2 ?_ | refine stMW [2] H3 ?_ | refine stMW [2] H4 ?_ | refine stRW [2] H8 ?_ | refine stRW [0] H9 ?_ | refine stm ?_ | refine Ja ?_ | refine run_nil ?_ | refine Jz ?_ | refine Jw ?_ | refine Jr ?_ | refine Js ?_ | refine Jy ?_ | refine aw_ret ?_
        all_goals first | (refine pmw_ret _ (renumA [0]) ?_; exact Wk.tupleL (.cons (Wk.aggL (.cons (.refl _) (.cons (.refl _) (.cons (.refl _) (.cons (.refl _) (.cons (.refl _) (.cons (.refl _) (.cons .nil .nil)))))))) (.cons (.refl _) .nil)))
    · rw [dec_bad1 hread (by rw [hz]; exact hz0)] at hres
      obtain ⟨rfl, rfl⟩ := Prod.mk.inj hres.symm
      obtain rfl : n = 0 := hn.symm
      clear hread h1 h2 h3 h4 hy hz hres l1 l2 l3 l4 hn
      refine acalls_of_aw Tryz.func116 rfl rfl ?_
      refine aw_ghost 1 rfl ?_
      repeat' first | refine st ?_ | refine stMW [] H0 ?_ | refine stMW [2] H1 ?_ | refine stMW [2] H2 ?_ | refine stMW [2] H3 ?_ | refine stMW [2] H4 ?_ | refine stRW [2] H8 ?_ | refine stm ?_ | refine Jb ?_ | refine Jg ?_ | refine run_nil ?_ | refine Jz ?_ | refine Jw ?_ | refine Jq ?_ | refine Jr ?_ | refine Jy ?_ | refine aw_ret ?_
      all_goals first | (refine pmw_ret _ (renumA [0]) ?_; exact Wk.tupleL (.cons (Wk.aggL (.cons (.refl _) (.cons (.refl _) (.cons (.refl _) (.cons (.refl _) (.cons (.refl _) (.cons (.refl _) (.cons .nil .nil)))))))) (.cons (.refl _) .nil)))
  · skip
    obtain ⟨v, a5, e5, h5⟩ : ∃ x y z, unsR d a4 e4 8 = (x, y, z) := ⟨_, _, _, rfl⟩
    obtain ⟨f, a6, e6, h6⟩ : ∃ x y z, unsR d a5 e5 27 = (x, y, z) := ⟨_, _, _, rfl⟩
    obtain ⟨u, a7, e7, h7⟩ : ∃ x y z, unsR d a6 e6 27 = (x, y, z) := ⟨_, _, _, rfl⟩
    obtain ⟨p, a8, e8, h8⟩ : ∃ x y z, unsR d a7 e7 4 = (x, y, z) := ⟨_, _, _, rfl⟩
    have l5 := unsR_le h5 l4 (by decide)
    have l6 := unsR_le h6 l5 (by decide)
    have l7 := unsR_le h7 l6 (by decide)
    have l8 := unsR_le h8 l7 (by decide)
    have hp := unsR_rng h8 (by decide)
    rw [show ((2 : Int) ^ (4 : Int).toNat) = 16 from rfl] at hp
    obtain ⟨N, hN⟩ : ∃ N : Nat, p + 1 = N := ⟨(p + 1).toNat, by omega⟩
    obtain ⟨C, a9, e9, h9⟩ : ∃ x y z, chR d a8 e8 N = (x, y, z) := ⟨_, _, _, rfl⟩
    have l9 := chR_le h9 l8
    have hCl := chR_len h9
    have hread : rdO d = ((root, op, run, v, f, u, C), a9, e9) := by
      unfold rdO u_ f_ t_
      dsimp only
      rw [h1]; dsimp only
      rw [h2]; dsimp only
      rw [h3]; dsimp only
      rw [h4]; dsimp only
      rw [if_pos rfl]
      unfold lsH u_
      dsimp only
      rw [h5]; dsimp only
      rw [h6]; dsimp only
      rw [h7]; dsimp only
      rw [h8]; dsimp only
      rw [show (p + 1).toNat = N by omega, h9]
    have H5 := ac_list d (by omega) a4 a5 a6 a7 a8 a9 e4 e5 e6 e7 e8 e9 v f u p C N h5 h6 h7 h8 hN h9 l4
    have HN := ac_none v f u N false (decide_eq_false (by omega))
    obtain ⟨z, hz⟩ : ∃ z, closeR d a9 e9 = z := ⟨_, rfl⟩
    have H8 := ac_closeR e9 z a9 d hz l9 (by omega)
    obtain ⟨y, hy⟩ : ∃ y, chkO root run v f u C = y := ⟨_, rfl⟩
    have H9 := ac_ocheck root op run v f u C N hCl (by omega) y hy
    by_cases hz0 : z = 0
    · subst hz0
      by_cases hy0 : y = 0
      · subst hy0
        rw [dec_good hread hz hy] at hres
        obtain ⟨rfl, rfl⟩ := Prod.mk.inj hres.symm
        obtain rfl : n = N := hn.symm.trans hCl
        clear hread h1 h2 h3 h4 h5 h6 h7 h8 h9 hy hz hres l1 l2 l3 l4 l5 l6 l7 l8 l9 hn hCl
        dsimp only
        refine acalls_of_aw Tryz.func116 rfl rfl ?_
        refine aw_ghost 1 rfl ?_
        repeat' first | refine st ?_ | refine stMW [] H0 ?_ | refine stMW [2] H1 ?_ | refine stMW [2] H2 ?_ | refine stMW [2] H3 ?_ | refine stMW [2] H4 ?_ | refine stMW [2] H5 ?_ | refine stRW [4] HN ?_ | refine stRW [2] H8 ?_ | refine stRW [4] H9 ?_ | refine st (h := ok_makeFunc (by ((repeat (apply ArgsR.cons; rfl)); exact ArgsR.nil)) (by ((repeat (apply ArgsR.cons; rfl)); exact ArgsR.nil))) ?_ | refine stm ?_ | refine Ja ?_ | refine run_nil ?_ | refine Jz ?_ | refine Jw ?_ | refine Jq ?_ | refine Jr ?_ | refine Jy ?_ | refine aw_ret ?_
        all_goals first | exact pm_ret _ (renumD [4]) rfl
      · rw [dec_bad2 hread hz (fun h => hy0 (hy.symm.trans h))] at hres
        obtain ⟨rfl, rfl⟩ := Prod.mk.inj hres.symm
        obtain rfl : n = 0 := hn.symm
        clear hread h1 h2 h3 h4 h5 h6 h7 h8 h9 hy hz hres l1 l2 l3 l4 l5 l6 l7 l8 l9 hn hCl
        refine acalls_of_aw Tryz.func116 rfl rfl ?_
        refine aw_ghost 1 rfl ?_
        repeat' first | refine st ?_ | refine stMW [] H0 ?_ | refine stMW [2] H1 ?_ | refine stMW [2] H2 ?_ | refine stMW [2] H3 ?_ | refine stMW [2] H4 ?_ | refine stMW [2] H5 ?_ | refine stRW [4] HN ?_ | refine stRW [2] H8 ?_ | refine stRW [4] H9 ?_ | refine st (h := ok_makeFunc (by ((repeat (apply ArgsR.cons; rfl)); exact ArgsR.nil)) (by ((repeat (apply ArgsR.cons; rfl)); exact ArgsR.nil))) ?_ | refine stm ?_ | refine Ja ?_ | refine run_nil ?_ | refine Jz ?_ | refine Jw ?_ | refine Jq ?_ | refine Jr ?_ | refine Js ?_ | refine Jy ?_ | refine aw_ret ?_
        all_goals first | (refine pmw_ret _ (renumA [0]) ?_; exact Wk.tupleL (.cons (Wk.aggL (.cons (.refl _) (.cons (.refl _) (.cons (.refl _) (.cons (.refl _) (.cons (.refl _) (.cons (.refl _) (.cons .nil .nil)))))))) (.cons (.refl _) .nil)))
    · rw [dec_bad1 hread (by rw [hz]; exact hz0)] at hres
      obtain ⟨rfl, rfl⟩ := Prod.mk.inj hres.symm
      obtain rfl : n = 0 := hn.symm
      clear hread h1 h2 h3 h4 h5 h6 h7 h8 h9 hy hz hres l1 l2 l3 l4 l5 l6 l7 l8 l9 hn hCl
      refine acalls_of_aw Tryz.func116 rfl rfl ?_
      refine aw_ghost 1 rfl ?_
      repeat' first | refine st ?_ | refine stMW [] H0 ?_ | refine stMW [2] H1 ?_ | refine stMW [2] H2 ?_ | refine stMW [2] H3 ?_ | refine stMW [2] H4 ?_ | refine stMW [2] H5 ?_ | refine stRW [4] HN ?_ | refine stRW [2] H8 ?_ | refine st (h := ok_makeFunc (by ((repeat (apply ArgsR.cons; rfl)); exact ArgsR.nil)) (by ((repeat (apply ArgsR.cons; rfl)); exact ArgsR.nil))) ?_ | refine stm ?_ | refine Jb ?_ | refine Jg ?_ | refine run_nil ?_ | refine Jz ?_ | refine Jw ?_ | refine Jq ?_ | refine Jr ?_ | refine Jy ?_ | refine aw_ret ?_
      all_goals first | (refine pmw_ret _ (renumA [0]) ?_; exact Wk.tupleL (.cons (Wk.aggL (.cons (.refl _) (.cons (.refl _) (.cons (.refl _) (.cons (.refl _) (.cons (.refl _) (.cons (.refl _) (.cons .nil .nil)))))))) (.cons (.refl _) .nil)))
/-- The fields of a beacon are right. -/
def okC (sr tg li sq fl nu er sx rk ep : Int) : Bool := decide (tg = -1 ∧ fl = 0 ∧ nu = 0 ∧ er = 0 ∧ (0 ≤ sx ∧ sx ≤ 109951162) ∧ (0 ≤ rk ∧ rk ≤ 65535) ∧ (0 ≤ ep ∧ ep ≤ 65535) ∧ (0 ≤ sr ∧ sr ≤ 31) ∧ (0 ≤ li ∧ li ≤ 255) ∧ (0 ≤ sq ∧ sq ≤ 255))
/-- A frame is a beacon. -/
def isC (kd sr tg li sq fl nu er sx rk ep : Int) : Bool := decide (kd = 3) && okC sr tg li sq fl nu er sx rk ep
/-- A beacon is better. -/
def betC (i j : Bool) (ep rk sr ep' rk' sr' : Int) : Bool := i && (j && decide (ep > ep' ∨ (ep = ep' ∧ (rk < rk' ∨ (rk = rk' ∧ sr < sr')))))
theorem ac_in (n m : Int) : ACalls Tryz.prog 152 [.int .i64 n, .int .i64 m] [] (.bool (decide (0 ≤ n ∧ n ≤ m))) [] := by
  refine acalls_pure Tryz.func152 rfl rfl rfl ?_
  repeat' first | intro h1 | refine st ?_ | refine Ja ?_ | refine Jb ?_ | refine Jh ?_ ?_ | refine run_nil ?_ | refine Jz ?_ | refine Jw ?_ | refine aw_ret ?_ | refine pp_ret ?_
  all_goals first | (show Value.bool _ = Value.bool _; congr 1; first | exact decide_eq_false (by omega) | exact decide_eq_true (by omega) | exact (decide_eq_false (by omega)).symm | exact (decide_eq_true (by omega)).symm | exact decide_eq_decide.2 (by omega))
set_option maxHeartbeats 4000000 in
theorem ac_fields (sr tg li sq fl nu er sx rk ep : Int) (dt : ByteArray) (x : Bool) (hx : decide (tg = -1 ∧ (0 ≤ sx ∧ sx ≤ 109951162) ∧ (0 ≤ rk ∧ rk ≤ 65535) ∧ (0 ≤ ep ∧ ep ≤ 65535)) = x) : ACalls Tryz.prog 151 [.agg #[.int .i64 3, .int .i64 sr, .int .i64 tg, .int .i64 li, .int .i64 sq, .int .i64 fl, .int .i64 nu, .int .i64 er, .int .i64 sx, .int .i64 rk, .int .i64 ep, .string dt]] [] (.tuple #[.agg #[.int .i64 3, .int .i64 sr, .int .i64 tg, .int .i64 li, .int .i64 sq, .int .i64 fl, .int .i64 nu, .int .i64 er, .int .i64 0, .int .i64 0, .int .i64 0, .string .empty], .bool x]) [] := by
  refine acalls_law Tryz.func151 rfl rfl rfl ?_
  repeat' first | intro h1 | refine st ?_ | refine st_call (ac_in _ _) ?_ | refine stm ?_ | refine Ja ?_ | refine Jb ?_ | refine Jh ?_ ?_ | refine run_nil ?_ | refine Jz ?_ | refine Jw ?_ | refine aw_block ?_ | refine Jq ?_ | refine Jr ?_ | refine aw_ret ?_ | refine pp_ret ?_
  all_goals first | (subst hx; refine congrArg (fun q => Value.tuple #[_, .bool q]) ?_; first | exact decide_eq_false (by omega) | exact decide_eq_true (by omega) | exact (decide_eq_false (by omega)).symm | exact (decide_eq_true (by omega)).symm | exact decide_eq_decide.2 (by omega))
end Go.Proofs.YtdbcbclapipgdaaGreatDoor
