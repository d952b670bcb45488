/- Offers: Decode. -/
import Derived.Test.YtfabgdignlfihaaH6
set_option linter.unusedVariables false
set_option linter.unusedSimpArgs false
namespace Go.Proofs.Ytfabgdignlfihaa
open Go Av
set_option maxRecDepth 20000
set_option maxHeartbeats 8000000 in
theorem ac_odecode (d : ByteArray) (hd : d.size ≤ 1000) (m : OfT) (x : Int) (n : Nat) (hres : decO d = (m, x)) (hn : m.2.2.2.2.2.2.length = n) : ACalls Try.prog 26 [.string d] [] (.tuple #[.agg #[.int .i64 m.1, .bool m.2.1, .string m.2.2.1, .int .i64 m.2.2.2.1, .int .i64 m.2.2.2.2.1, .int .i64 m.2.2.2.2.2.1, .slice (some ⟨0, 0, none⟩) n n], .int .i64 x]) [some ⟨List.map (Value.int .i64) m.2.2.2.2.2.2, true, 1⟩] := by
  obtain ⟨root, a1, e1, h1⟩ : ∃ x y z, unsR d 0 0 5 = (x, y, z) := ⟨_, _, _, rfl⟩
  obtain ⟨op, a2, e2, h2⟩ : ∃ x y z, flgR d a1 e1 = (x, y, z) := ⟨_, _, _, rfl⟩
  obtain ⟨run, a3, e3, h3⟩ : ∃ x y z, txtR d a2 e2 8 = (x, y, z) := ⟨_, _, _, rfl⟩
  obtain ⟨fl, a4, e4, h4⟩ : ∃ x y z, flgR d a3 e3 = (x, y, z) := ⟨_, _, _, rfl⟩
  have l1 := unsR_le h1 (Nat.zero_le _) (by decide)
  have l2 := flgR_le h2 l1
  have l3 := txtR_le h3 l2 (by decide)
  have l4 := flgR_le h4 l3
  have H0 := ac_newR d (by omega)
  have H1 := ac_unsR 5 0 e1 root 0 a1 d h1 (Nat.zero_le _) (by omega) (by decide)
  have H2 := ac_flgR e1 e2 op a1 a2 d h2 l1 (by omega)
  have H3 := ac_txtR 8 e2 e3 run a2 a3 d h3 l2 (by omega) (by decide)
  have H4 := ac_flgR e3 e4 fl a3 a4 d h4 l3 (by omega)
  cases fl
  · skip
    have hread : rdO d = ((root, op, run, 0, 0, 0, []), a4, e4) := by
      unfold rdO u_ f_ t_
      dsimp only
      rw [h1]; dsimp only
      rw [h2]; dsimp only
      rw [h3]; dsimp only
      rw [h4]; dsimp only
      rw [if_neg (by decide)]
    have H8 := ac_closeR e4 _ a4 d rfl l4 (by omega)
    obtain ⟨z, hz⟩ : ∃ z, closeR d a4 e4 = z := ⟨_, rfl⟩
    rw [hz] at H8
    obtain ⟨y, hy⟩ : ∃ y, chkO root run 0 0 0 [] = y := ⟨_, rfl⟩
    have H9 := ac_ocheck root op run 0 0 0 [] 0 rfl (by decide) y hy
    by_cases hz0 : z = 0
    · subst hz0
      by_cases hy0 : y = 0
      · subst hy0
        rw [dec_good hread hz hy] at hres
        obtain ⟨rfl, rfl⟩ := Prod.mk.inj hres.symm
        obtain rfl : n = 0 := hn.symm
        clear hread h1 h2 h3 h4 hy hz hres l1 l2 l3 l4 hn
        dsimp only
        refine acalls_of_aw Try.func26 rfl rfl ?_
        refine aw_ghost 1 rfl ?_
        repeat' first
          | refine st ?_
          | refine stMW [] H0 ?_
          | refine stMW [2] H1 ?_
          | refine stMW [2] H2 ?_
          | refine stMW [2] H3 ?_
          | refine stMW [2] H4 ?_
          | refine stRW [2] H8 ?_
          | refine stRW [0] H9 ?_
          | refine st (h := ok_makeFunc (by ((repeat (apply ArgsR.cons; rfl)); exact ArgsR.nil)) (by ((repeat (apply ArgsR.cons; rfl)); exact ArgsR.nil))) ?_
          | refine stm ?_
          | refine run_want rfl rfl ?_
          | refine run_unwant rfl rfl ?_
          | refine run_undef rfl rfl ?_
          | refine run_guard1t rfl rfl (by omega) ?_
          | refine run_guard1f rfl rfl (by omega) ?_
          | refine run_guard0t rfl rfl (by omega) ?_
          | refine run_guard0f rfl rfl (by omega) ?_
          | refine run_guard1 rfl rfl (fun h1 => ?_) (fun h1 => ?_)
          | refine run_guard0 rfl rfl (fun h1 => ?_) (fun h1 => ?_)
          | refine run_guard rfl rfl (fun h1 => ?_) (fun h1 => ?_)
          | refine run_nil ?_
          | refine aw_seq ?_
          | refine aw_region (by kernel_rfl) (Nat.le_of_ble_eq_true rfl) ?_
          | refine aw_block ?_
          | refine aw_cond_t rfl ?_
          | refine aw_cond_f rfl ?_
          | refine aw_cond_tp rfl (by omega) ?_
          | refine aw_cond_fp rfl (by omega) ?_
          | refine aw_cond1 rfl (fun h1 => ?_) (fun h1 => ?_)
          | refine aw_cond rfl (fun h1 => ?_) (fun h1 => ?_)
          | refine aw_skip ?_
          | refine aw_exit ?_
          | refine aw_ret ?_
          | refine pp_ret ?_
          | refine pp_normal ?_
        all_goals first | (refine pmw_ret _ (renumA [0]) ?_; exact Wk.tupleL (.cons (Wk.aggL (.cons (.refl _) (.cons (.refl _) (.cons (.refl _) (.cons (.refl _) (.cons (.refl _) (.cons (.refl _) (.cons .nil .nil)))))))) (.cons (.refl _) .nil))) | (exfalso; omega) | (exfalso; simp_all; done)
      · rw [dec_bad2 hread hz (fun h => hy0 (hy.symm.trans h))] at hres
        obtain ⟨rfl, rfl⟩ := Prod.mk.inj hres.symm
        obtain rfl : n = 0 := hn.symm
        clear hread h1 h2 h3 h4 hy hz hres l1 l2 l3 l4 hn
        refine acalls_of_aw Try.func26 rfl rfl ?_
        refine aw_ghost 1 rfl ?_
        repeat' first
          | refine st ?_
          | refine stMW [] H0 ?_
          | refine stMW [2] H1 ?_
          | refine stMW [2] H2 ?_
          | refine stMW [2] H3 ?_
          | refine stMW [2] H4 ?_
          | refine stRW [2] H8 ?_
          | refine stRW [0] H9 ?_
          | refine st (h := ok_makeFunc (by ((repeat (apply ArgsR.cons; rfl)); exact ArgsR.nil)) (by ((repeat (apply ArgsR.cons; rfl)); exact ArgsR.nil))) ?_
          | refine stm ?_
          | refine run_want rfl rfl ?_
          | refine run_unwant rfl rfl ?_
          | refine run_undef rfl rfl ?_
          | refine run_guard1t rfl rfl (by omega) ?_
          | refine run_guard1f rfl rfl (by omega) ?_
          | refine run_guard0t rfl rfl (by omega) ?_
          | refine run_guard0f rfl rfl (by omega) ?_
          | refine run_guard1 rfl rfl (fun h1 => ?_) (fun h1 => ?_)
          | refine run_guard0 rfl rfl (fun h1 => ?_) (fun h1 => ?_)
          | refine run_guard rfl rfl (fun h1 => ?_) (fun h1 => ?_)
          | refine run_nil ?_
          | refine aw_seq ?_
          | refine aw_region (by kernel_rfl) (Nat.le_of_ble_eq_true rfl) ?_
          | refine aw_block ?_
          | refine aw_cond_t rfl ?_
          | refine aw_cond_f rfl ?_
          | refine aw_cond_tp rfl (by omega) ?_
          | refine aw_cond_fp rfl (by omega) ?_
          | refine aw_cond1 rfl (fun h1 => ?_) (fun h1 => ?_)
          | refine aw_cond rfl (fun h1 => ?_) (fun h1 => ?_)
          | refine aw_skip ?_
          | refine aw_exit ?_
          | refine aw_ret ?_
          | refine pp_ret ?_
          | refine pp_normal ?_
        all_goals first | (refine pmw_ret _ (renumA [0]) ?_; exact Wk.tupleL (.cons (Wk.aggL (.cons (.refl _) (.cons (.refl _) (.cons (.refl _) (.cons (.refl _) (.cons (.refl _) (.cons (.refl _) (.cons .nil .nil)))))))) (.cons (.refl _) .nil))) | (exfalso; omega) | (exfalso; simp_all; done)
    · rw [dec_bad1 hread (by rw [hz]; exact hz0)] at hres
      obtain ⟨rfl, rfl⟩ := Prod.mk.inj hres.symm
      obtain rfl : n = 0 := hn.symm
      clear hread h1 h2 h3 h4 hy hz hres l1 l2 l3 l4 hn
      refine acalls_of_aw Try.func26 rfl rfl ?_
      refine aw_ghost 1 rfl ?_
      repeat' first
        | refine st ?_
        | refine stMW [] H0 ?_
        | refine stMW [2] H1 ?_
        | refine stMW [2] H2 ?_
        | refine stMW [2] H3 ?_
        | refine stMW [2] H4 ?_
        | refine stRW [2] H8 ?_
        | refine stRW [0] H9 ?_
        | refine st (h := ok_makeFunc (by ((repeat (apply ArgsR.cons; rfl)); exact ArgsR.nil)) (by ((repeat (apply ArgsR.cons; rfl)); exact ArgsR.nil))) ?_
        | refine stm ?_
        | refine run_want rfl rfl ?_
        | refine run_unwant rfl rfl ?_
        | refine run_undef rfl rfl ?_
        | refine run_guard1t rfl rfl (by omega) ?_
        | refine run_guard1f rfl rfl (by omega) ?_
        | refine run_guard0t rfl rfl (by omega) ?_
        | refine run_guard0f rfl rfl (by omega) ?_
        | refine run_guard1 rfl rfl (fun h1 => ?_) (fun h1 => ?_)
        | refine run_guard0 rfl rfl (fun h1 => ?_) (fun h1 => ?_)
        | refine run_guard rfl rfl (fun h1 => ?_) (fun h1 => ?_)
        | refine run_nil ?_
        | refine aw_seq ?_
        | refine aw_region (by kernel_rfl) (Nat.le_of_ble_eq_true rfl) ?_
        | refine aw_block ?_
        | refine aw_cond_t rfl ?_
        | refine aw_cond_f rfl ?_
        | refine aw_cond_tp rfl (by omega) ?_
        | refine aw_cond_fp rfl (by omega) ?_
        | refine aw_cond1 rfl (fun h1 => ?_) (fun h1 => ?_)
        | refine aw_cond rfl (fun h1 => ?_) (fun h1 => ?_)
        | refine aw_skip ?_
        | refine aw_exit ?_
        | refine aw_ret ?_
        | refine pp_ret ?_
        | refine pp_normal ?_
      all_goals first | (refine pmw_ret _ (renumA [0]) ?_; exact Wk.tupleL (.cons (Wk.aggL (.cons (.refl _) (.cons (.refl _) (.cons (.refl _) (.cons (.refl _) (.cons (.refl _) (.cons (.refl _) (.cons .nil .nil)))))))) (.cons (.refl _) .nil))) | (exfalso; omega) | (exfalso; simp_all; done)
  · skip
    obtain ⟨v, a5, e5, h5⟩ : ∃ x y z, unsR d a4 e4 8 = (x, y, z) := ⟨_, _, _, rfl⟩
    obtain ⟨f, a6, e6, h6⟩ : ∃ x y z, unsR d a5 e5 27 = (x, y, z) := ⟨_, _, _, rfl⟩
    obtain ⟨u, a7, e7, h7⟩ : ∃ x y z, unsR d a6 e6 27 = (x, y, z) := ⟨_, _, _, rfl⟩
    obtain ⟨p, a8, e8, h8⟩ : ∃ x y z, unsR d a7 e7 4 = (x, y, z) := ⟨_, _, _, rfl⟩
    have l5 := unsR_le h5 l4 (by decide)
    have l6 := unsR_le h6 l5 (by decide)
    have l7 := unsR_le h7 l6 (by decide)
    have l8 := unsR_le h8 l7 (by decide)
    have hp := unsR_rng h8 (by decide)
    rw [show ((2 : Int) ^ (4 : Int).toNat) = 16 from rfl] at hp
    obtain ⟨N, hN⟩ : ∃ N : Nat, p + 1 = N := ⟨(p + 1).toNat, by omega⟩
    obtain ⟨C, a9, e9, h9⟩ : ∃ x y z, chR d a8 e8 N = (x, y, z) := ⟨_, _, _, rfl⟩
    have l9 := chR_le h9 l8
    have hCl := chR_len h9
    have hread : rdO d = ((root, op, run, v, f, u, C), a9, e9) := by
      unfold rdO u_ f_ t_
      dsimp only
      rw [h1]; dsimp only
      rw [h2]; dsimp only
      rw [h3]; dsimp only
      rw [h4]; dsimp only
      rw [if_pos rfl]
      unfold lsH u_
      dsimp only
      rw [h5]; dsimp only
      rw [h6]; dsimp only
      rw [h7]; dsimp only
      rw [h8]; dsimp only
      rw [show (p + 1).toNat = N by omega, h9]
    have H5 := ac_list d (by omega) a4 a5 a6 a7 a8 a9 e4 e5 e6 e7 e8 e9 v f u p C N h5 h6 h7 h8 hN h9 l4
    have HN := ac_none v f u N false (decide_eq_false (by omega))
    obtain ⟨z, hz⟩ : ∃ z, closeR d a9 e9 = z := ⟨_, rfl⟩
    have H8 := ac_closeR e9 z a9 d hz l9 (by omega)
    obtain ⟨y, hy⟩ : ∃ y, chkO root run v f u C = y := ⟨_, rfl⟩
    have H9 := ac_ocheck root op run v f u C N hCl (by omega) y hy
    by_cases hz0 : z = 0
    · subst hz0
      by_cases hy0 : y = 0
      · subst hy0
        rw [dec_good hread hz hy] at hres
        obtain ⟨rfl, rfl⟩ := Prod.mk.inj hres.symm
        obtain rfl : n = N := hn.symm.trans hCl
        clear hread h1 h2 h3 h4 h5 h6 h7 h8 h9 hy hz hres l1 l2 l3 l4 l5 l6 l7 l8 l9 hn hCl
        dsimp only
        refine acalls_of_aw Try.func26 rfl rfl ?_
        refine aw_ghost 1 rfl ?_
        repeat' first
          | refine st ?_
          | refine stMW [] H0 ?_
          | refine stMW [2] H1 ?_
          | refine stMW [2] H2 ?_
          | refine stMW [2] H3 ?_
          | refine stMW [2] H4 ?_
          | refine stMW [2] H5 ?_
          | refine stRW [4] HN ?_
          | refine stRW [2] H8 ?_
          | refine stRW [4] H9 ?_
          | refine st (h := ok_makeFunc (by ((repeat (apply ArgsR.cons; rfl)); exact ArgsR.nil)) (by ((repeat (apply ArgsR.cons; rfl)); exact ArgsR.nil))) ?_
          | refine stm ?_
          | refine run_want rfl rfl ?_
          | refine run_unwant rfl rfl ?_
          | refine run_undef rfl rfl ?_
          | refine run_guard1t rfl rfl (by omega) ?_
          | refine run_guard1f rfl rfl (by omega) ?_
          | refine run_guard0t rfl rfl (by omega) ?_
          | refine run_guard0f rfl rfl (by omega) ?_
          | refine run_guard1 rfl rfl (fun h1 => ?_) (fun h1 => ?_)
          | refine run_guard0 rfl rfl (fun h1 => ?_) (fun h1 => ?_)
          | refine run_guard rfl rfl (fun h1 => ?_) (fun h1 => ?_)
          | refine run_nil ?_
          | refine aw_seq ?_
          | refine aw_region (by kernel_rfl) (Nat.le_of_ble_eq_true rfl) ?_
          | refine aw_block ?_
          | refine aw_cond_t rfl ?_
          | refine aw_cond_f rfl ?_
          | refine aw_cond_tp rfl (by omega) ?_
          | refine aw_cond_fp rfl (by omega) ?_
          | refine aw_cond1 rfl (fun h1 => ?_) (fun h1 => ?_)
          | refine aw_cond rfl (fun h1 => ?_) (fun h1 => ?_)
          | refine aw_skip ?_
          | refine aw_exit ?_
          | refine aw_ret ?_
          | refine pp_ret ?_
          | refine pp_normal ?_
        all_goals first | exact pm_ret _ (renumD [4]) rfl | (exfalso; omega) | (exfalso; simp_all; done)
      · rw [dec_bad2 hread hz (fun h => hy0 (hy.symm.trans h))] at hres
        obtain ⟨rfl, rfl⟩ := Prod.mk.inj hres.symm
        obtain rfl : n = 0 := hn.symm
        clear hread h1 h2 h3 h4 h5 h6 h7 h8 h9 hy hz hres l1 l2 l3 l4 l5 l6 l7 l8 l9 hn hCl
        refine acalls_of_aw Try.func26 rfl rfl ?_
        refine aw_ghost 1 rfl ?_
        repeat' first
          | refine st ?_
          | refine stMW [] H0 ?_
          | refine stMW [2] H1 ?_
          | refine stMW [2] H2 ?_
          | refine stMW [2] H3 ?_
          | refine stMW [2] H4 ?_
          | refine stMW [2] H5 ?_
          | refine stRW [4] HN ?_
          | refine stRW [2] H8 ?_
          | refine stRW [4] H9 ?_
          | refine st (h := ok_makeFunc (by ((repeat (apply ArgsR.cons; rfl)); exact ArgsR.nil)) (by ((repeat (apply ArgsR.cons; rfl)); exact ArgsR.nil))) ?_
          | refine stm ?_
          | refine run_want rfl rfl ?_
          | refine run_unwant rfl rfl ?_
          | refine run_undef rfl rfl ?_
          | refine run_guard1t rfl rfl (by omega) ?_
          | refine run_guard1f rfl rfl (by omega) ?_
          | refine run_guard0t rfl rfl (by omega) ?_
          | refine run_guard0f rfl rfl (by omega) ?_
          | refine run_guard1 rfl rfl (fun h1 => ?_) (fun h1 => ?_)
          | refine run_guard0 rfl rfl (fun h1 => ?_) (fun h1 => ?_)
          | refine run_guard rfl rfl (fun h1 => ?_) (fun h1 => ?_)
          | refine run_nil ?_
          | refine aw_seq ?_
          | refine aw_region (by kernel_rfl) (Nat.le_of_ble_eq_true rfl) ?_
          | refine aw_block ?_
          | refine aw_cond_t rfl ?_
          | refine aw_cond_f rfl ?_
          | refine aw_cond_tp rfl (by omega) ?_
          | refine aw_cond_fp rfl (by omega) ?_
          | refine aw_cond1 rfl (fun h1 => ?_) (fun h1 => ?_)
          | refine aw_cond rfl (fun h1 => ?_) (fun h1 => ?_)
          | refine aw_skip ?_
          | refine aw_exit ?_
          | refine aw_ret ?_
          | refine pp_ret ?_
          | refine pp_normal ?_
        all_goals first | (refine pmw_ret _ (renumA [0]) ?_; exact Wk.tupleL (.cons (Wk.aggL (.cons (.refl _) (.cons (.refl _) (.cons (.refl _) (.cons (.refl _) (.cons (.refl _) (.cons (.refl _) (.cons .nil .nil)))))))) (.cons (.refl _) .nil))) | (exfalso; omega) | (exfalso; simp_all; done)
    · rw [dec_bad1 hread (by rw [hz]; exact hz0)] at hres
      obtain ⟨rfl, rfl⟩ := Prod.mk.inj hres.symm
      obtain rfl : n = 0 := hn.symm
      clear hread h1 h2 h3 h4 h5 h6 h7 h8 h9 hy hz hres l1 l2 l3 l4 l5 l6 l7 l8 l9 hn hCl
      refine acalls_of_aw Try.func26 rfl rfl ?_
      refine aw_ghost 1 rfl ?_
      repeat' first
        | refine st ?_
        | refine stMW [] H0 ?_
        | refine stMW [2] H1 ?_
        | refine stMW [2] H2 ?_
        | refine stMW [2] H3 ?_
        | refine stMW [2] H4 ?_
        | refine stMW [2] H5 ?_
        | refine stRW [4] HN ?_
        | refine stRW [2] H8 ?_
        | refine stRW [4] H9 ?_
        | refine st (h := ok_makeFunc (by ((repeat (apply ArgsR.cons; rfl)); exact ArgsR.nil)) (by ((repeat (apply ArgsR.cons; rfl)); exact ArgsR.nil))) ?_
        | refine stm ?_
        | refine run_want rfl rfl ?_
        | refine run_unwant rfl rfl ?_
        | refine run_undef rfl rfl ?_
        | refine run_guard1t rfl rfl (by omega) ?_
        | refine run_guard1f rfl rfl (by omega) ?_
        | refine run_guard0t rfl rfl (by omega) ?_
        | refine run_guard0f rfl rfl (by omega) ?_
        | refine run_guard1 rfl rfl (fun h1 => ?_) (fun h1 => ?_)
        | refine run_guard0 rfl rfl (fun h1 => ?_) (fun h1 => ?_)
        | refine run_guard rfl rfl (fun h1 => ?_) (fun h1 => ?_)
        | refine run_nil ?_
        | refine aw_seq ?_
        | refine aw_region (by kernel_rfl) (Nat.le_of_ble_eq_true rfl) ?_
        | refine aw_block ?_
        | refine aw_cond_t rfl ?_
        | refine aw_cond_f rfl ?_
        | refine aw_cond_tp rfl (by omega) ?_
        | refine aw_cond_fp rfl (by omega) ?_
        | refine aw_cond1 rfl (fun h1 => ?_) (fun h1 => ?_)
        | refine aw_cond rfl (fun h1 => ?_) (fun h1 => ?_)
        | refine aw_skip ?_
        | refine aw_exit ?_
        | refine aw_ret ?_
        | refine pp_ret ?_
        | refine pp_normal ?_
      all_goals first | (refine pmw_ret _ (renumA [0]) ?_; exact Wk.tupleL (.cons (Wk.aggL (.cons (.refl _) (.cons (.refl _) (.cons (.refl _) (.cons (.refl _) (.cons (.refl _) (.cons (.refl _) (.cons .nil .nil)))))))) (.cons (.refl _) .nil))) | (exfalso; omega) | (exfalso; simp_all; done)
end Go.Proofs.Ytfabgdignlfihaa
