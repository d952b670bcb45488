/- Messages: Decode. -/
import Derived.Test.YtjamfmnlhiolkaaG2
set_option linter.unusedVariables false
set_option linter.unusedSimpArgs false
namespace Go.Proofs.Ytjamfmnlhiolkaa
open Go Av
set_option maxRecDepth 20000
set_option maxHeartbeats 4000000 in
theorem ac_decode (d : ByteArray) (hd : d.size ≤ 1000) (m : MsgT) (x : Int) (s o : Nat) (hres : decP d = (m, x)) (hs : m.2.2.2.2.2.1.length = s) (ho : m.2.2.2.2.2.2.length = o) : ACalls Try.prog 25 [.string d] [] (.tuple #[.agg #[.int .i64 m.1, .bool m.2.1, .int .i64 m.2.2.1, .int .i64 m.2.2.2.1, .int .i64 m.2.2.2.2.1, .slice (some ⟨0, 0, none⟩) s s, .slice (some ⟨1, 0, none⟩) o o], .int .i64 x]) [some ⟨m.2.2.2.2.2.1.flatMap spC, true, 2⟩, some ⟨m.2.2.2.2.2.2.flatMap spC, true, 2⟩] := by
  obtain ⟨k, a1, e1, h1⟩ : ∃ x y z, unsR d 0 0 3 = (x, y, z) := ⟨_, _, _, rfl⟩
  obtain ⟨r, a2, e2, h2⟩ : ∃ x y z, flgR d a1 e1 = (x, y, z) := ⟨_, _, _, rfl⟩
  obtain ⟨n, a3, e3, h3⟩ : ∃ x y z, unsR d a2 e2 8 = (x, y, z) := ⟨_, _, _, rfl⟩
  obtain ⟨c, a4, e4, h4⟩ : ∃ x y z, unsR d a3 e3 2 = (x, y, z) := ⟨_, _, _, rfl⟩
  obtain ⟨cnt, a5, e5, h5⟩ : ∃ x y z, unsR d a4 e4 10 = (x, y, z) := ⟨_, _, _, rfl⟩
  obtain ⟨p, a6, e6, h6⟩ : ∃ x y z, unsR d a5 e5 4 = (x, y, z) := ⟨_, _, _, rfl⟩
  obtain ⟨S, a7, e7, h7⟩ : ∃ x y z, plR d a6 e6 (min p 8).toNat = (x, y, z) := ⟨_, _, _, rfl⟩
  obtain ⟨q, a8, e8, h8⟩ : ∃ x y z, unsR d a7 e7 4 = (x, y, z) := ⟨_, _, _, rfl⟩
  obtain ⟨O, a9, e9, h9⟩ : ∃ x y z, plR d a8 e8 (min q 8).toNat = (x, y, z) := ⟨_, _, _, rfl⟩
  have hread : rdM (min · 8) d = ((k, r, n, c, cnt, S, O), a9, e9) := by
    unfold rdM u_ f_ lsR
    dsimp only
    rw [h1]
    dsimp only
    rw [h2]
    dsimp only
    rw [h3]
    dsimp only
    rw [h4]
    dsimp only
    rw [h5]
    dsimp only
    rw [h6]
    dsimp only
    rw [h7]
    dsimp only
    rw [h8]
    dsimp only
    rw [h9]
  have l1 := unsR_le h1 (Nat.zero_le _) (by decide)
  have l2 := flgR_le h2 l1
  have l3 := unsR_le h3 l2 (by decide)
  have l4 := unsR_le h4 l3 (by decide)
  have l5 := unsR_le h5 l4 (by decide)
  have l6 := unsR_le h6 l5 (by decide)
  have l7 := plR_le h7 l6
  have l8 := unsR_le h8 l7 (by decide)
  have l9 := plR_le h9 l8
  obtain ⟨p0, hp⟩ := Int.eq_ofNat_of_zero_le (unsR_rng h6 (by decide)).1
  obtain ⟨q0, hq⟩ := Int.eq_ofNat_of_zero_le (unsR_rng h8 (by decide)).1
  have hp8 : min p 8 = ((min p0 8 : Nat) : Int) := by omega
  have hq8 : min q 8 = ((min q0 8 : Nat) : Int) := by omega
  rw [show (min p 8).toNat = min p0 8 by omega] at h7
  rw [show (min q 8).toNat = min q0 8 by omega] at h9
  have hsl := plR_len h7
  have hol := plR_len h9
  have H0 := ac_newR d (by omega)
  have H1 := ac_unsR 3 0 e1 k 0 a1 d h1 (Nat.zero_le _) (by omega) (by decide)
  have H2 := ac_flgR e1 e2 r a1 a2 d h2 l1 (by omega)
  have H3 := ac_unsR 8 e2 e3 n a2 a3 d h3 l2 (by omega) (by decide)
  have H4 := ac_unsR 2 e3 e4 c a3 a4 d h4 l3 (by omega) (by decide)
  have H5 := ac_unsR 10 e4 e5 cnt a4 a5 d h5 l4 (by omega) (by decide)
  have H6 := ac_plread d a5 a6 a7 e5 e6 e7 p (min p0 8) S h6 hp8 h7 l5 (by omega)
  have H7 := ac_plread d a7 a8 a9 e7 e8 e9 q (min q0 8) O h8 hq8 h9 l7 (by omega)
  obtain ⟨z, hz⟩ : ∃ z, closeR d a9 e9 = z := ⟨_, rfl⟩
  have H8 := ac_closeR e9 z a9 d hz l9 (by omega)
  obtain ⟨y, hy⟩ : ∃ y, chk k n c cnt r S O = y := ⟨_, rfl⟩
  have H9 := ac_check k n c cnt y r S O _ _ hsl hol hy
  generalize min p0 8 = s1 at hsl H6 H9
  generalize min q0 8 = o1 at hol H7 H9
  by_cases hz0 : z = 0
  · subst hz0
    by_cases hy0 : y = 0
    · subst hy0
      have H10 := ac_encode0 k n c cnt r S O s1 o1 hsl hol hy
      obtain ⟨w, hw⟩ : ∃ w, encM (k, r, n, c, cnt, S, O) = w := ⟨_, rfl⟩
      rw [← encM_eq, hw] at H10
      by_cases hwd : w = d
      · subst hwd
        rw [dec_good hread hz hy hw] at hres
        obtain ⟨rfl, rfl⟩ := Prod.mk.inj hres.symm
        obtain rfl : s = s1 := hs.symm.trans hsl
        obtain rfl : o = o1 := ho.symm.trans hol
        clear hread h1 h2 h3 h4 h5 h6 h7 h8 h9 hp8 hq8 hy hw hz hres l1 l2 l3 l4 l5 l6 l7 l8 l9 hsl hol hs ho
        dsimp only
        refine acalls_of_aw Try.func25 rfl rfl ?_
        refine aw_ghost 2 rfl ?_
        refine aw_ghost 2 rfl ?_
        repeat' first
          | refine st (h := ok_str_eqlT rfl rfl) ?_
          | refine st (h := ok_str_neqF rfl rfl) ?_
          | refine st ?_
          | refine stMW [] H0 ?_
          | refine stMW [3] H1 ?_
          | refine stMW [3] H2 ?_
          | refine stMW [3] H3 ?_
          | refine stMW [3] H4 ?_
          | refine stMW [3] H5 ?_
          | refine stMW [3] H6 ?_
          | refine stMW [3] H7 ?_
          | refine stRW [3] H8 ?_
          | refine stRW [5, 6] H9 ?_
          | refine stRW [5, 6] H10 ?_
          | refine st (h := ok_makeFunc (by ((repeat (apply ArgsR.cons; rfl)); exact ArgsR.nil)) (by ((repeat (apply ArgsR.cons; rfl)); exact ArgsR.nil))) ?_
          | refine stm ?_
          | refine run_want rfl rfl ?_
          | refine run_unwant rfl rfl ?_
          | refine run_undef rfl rfl ?_
          | refine run_guard1t rfl rfl (by omega) ?_
          | refine run_guard1f rfl rfl (by omega) ?_
          | refine run_guard0t rfl rfl (by omega) ?_
          | refine run_guard0f rfl rfl (by omega) ?_
          | refine run_guard1 rfl rfl (fun h1 => ?_) (fun h1 => ?_)
          | refine run_guard0 rfl rfl (fun h1 => ?_) (fun h1 => ?_)
          | refine run_guard rfl rfl (fun h1 => ?_) (fun h1 => ?_)
          | refine run_nil ?_
          | refine aw_seq ?_
          | refine aw_region (by kernel_rfl) (Nat.le_of_ble_eq_true rfl) ?_
          | refine aw_block ?_
          | refine aw_cond_t rfl ?_
          | refine aw_cond_f rfl ?_
          | refine aw_cond_tp rfl (by omega) ?_
          | refine aw_cond_fp rfl (by omega) ?_
          | refine aw_cond1 rfl (fun h1 => ?_) (fun h1 => ?_)
          | refine aw_cond rfl (fun h1 => ?_) (fun h1 => ?_)
          | refine aw_skip ?_
          | refine aw_exit ?_
          | refine aw_ret ?_
          | refine pp_ret ?_
          | refine pp_normal ?_
        all_goals first | exact pm_ret _ (renumD [5, 6]) rfl | (exfalso; omega)
      · clear h1 h2 h3 h4 h5 h6 h7 h8 h9 hp8 hq8 l1 l2 l3 l4 l5 l6 l7 l8 l9 hsl hol
        rw [dec_bad3 hread hz hy (by rw [hw]; exact hwd)] at hres
        obtain ⟨rfl, rfl⟩ := Prod.mk.inj hres.symm
        obtain rfl : s = 0 := hs.symm
        obtain rfl : o = 0 := ho.symm
        refine acalls_of_aw Try.func25 rfl rfl ?_
        refine aw_ghost 2 rfl ?_
        refine aw_ghost 2 rfl ?_
        repeat' first
          | refine st ?_
          | refine stMW [] H0 ?_
          | refine stMW [3] H1 ?_
          | refine stMW [3] H2 ?_
          | refine stMW [3] H3 ?_
          | refine stMW [3] H4 ?_
          | refine stMW [3] H5 ?_
          | refine stMW [3] H6 ?_
          | refine stMW [3] H7 ?_
          | refine stRW [3] H8 ?_
          | refine stRW [5, 6] H9 ?_
          | refine stRW [5, 6] H10 ?_
          | refine st (h := ok_makeFunc (by ((repeat (apply ArgsR.cons; rfl)); exact ArgsR.nil)) (by ((repeat (apply ArgsR.cons; rfl)); exact ArgsR.nil))) ?_
          | refine stm ?_
          | refine run_want rfl rfl ?_
          | refine run_unwant rfl rfl ?_
          | refine run_undef rfl rfl ?_
          | refine run_guard1t rfl rfl (by omega) ?_
          | refine run_guard1f rfl rfl (by omega) ?_
          | refine run_guard0t rfl rfl (by omega) ?_
          | refine run_guard0f rfl rfl (by omega) ?_
          | refine run_guard1 rfl rfl (fun h1 => ?_) (fun h1 => ?_)
          | refine run_guard0 rfl rfl (fun h1 => ?_) (fun h1 => ?_)
          | refine run_guard rfl rfl (fun h1 => ?_) (fun h1 => ?_)
          | refine run_nil ?_
          | refine aw_seq ?_
          | refine aw_region (by kernel_rfl) (Nat.le_of_ble_eq_true rfl) ?_
          | refine aw_block ?_
          | refine aw_cond_t rfl ?_
          | refine aw_cond_f rfl ?_
          | refine aw_cond_tp rfl (by omega) ?_
          | refine aw_cond_fp rfl (by omega) ?_
          | refine aw_cond1 rfl (fun h1 => ?_) (fun h1 => ?_)
          | refine aw_cond rfl (fun h1 => ?_) (fun h1 => ?_)
          | refine aw_skip ?_
          | refine aw_exit ?_
          | refine aw_ret ?_
          | refine pp_ret ?_
          | refine pp_normal ?_
        all_goals first | (refine pmw_ret _ (renumA [0, 1]) ?_; exact Wk.tupleL (.cons (Wk.aggL (.cons (.refl _) (.cons (.refl _) (.cons (.refl _) (.cons (.refl _) (.cons (.refl _) (.cons .nil (.cons .nil .nil)))))))) (.cons (.refl _) .nil))) | exact absurd (Decidable.of_not_not h1) hwd | (exfalso; omega)
    · clear h1 h2 h3 h4 h5 h6 h7 h8 h9 hp8 hq8 l1 l2 l3 l4 l5 l6 l7 l8 l9 hsl hol
      rw [dec_bad2 hread hz (by rw [chkM_eq, hy]; exact hy0)] at hres
      obtain ⟨rfl, rfl⟩ := Prod.mk.inj hres.symm
      obtain rfl : s = 0 := hs.symm
      obtain rfl : o = 0 := ho.symm
      refine acalls_of_aw Try.func25 rfl rfl ?_
      refine aw_ghost 2 rfl ?_
      refine aw_ghost 2 rfl ?_
      repeat' first
        | refine st ?_
        | refine stMW [] H0 ?_
        | refine stMW [3] H1 ?_
        | refine stMW [3] H2 ?_
        | refine stMW [3] H3 ?_
        | refine stMW [3] H4 ?_
        | refine stMW [3] H5 ?_
        | refine stMW [3] H6 ?_
        | refine stMW [3] H7 ?_
        | refine stRW [3] H8 ?_
        | refine stRW [5, 6] H9 ?_
        | refine st (h := ok_makeFunc (by ((repeat (apply ArgsR.cons; rfl)); exact ArgsR.nil)) (by ((repeat (apply ArgsR.cons; rfl)); exact ArgsR.nil))) ?_
        | refine stm ?_
        | refine run_want rfl rfl ?_
        | refine run_unwant rfl rfl ?_
        | refine run_undef rfl rfl ?_
        | refine run_guard1t rfl rfl (by omega) ?_
        | refine run_guard1f rfl rfl (by omega) ?_
        | refine run_guard0t rfl rfl (by omega) ?_
        | refine run_guard0f rfl rfl (by omega) ?_
        | refine run_guard1 rfl rfl (fun h1 => ?_) (fun h1 => ?_)
        | refine run_guard0 rfl rfl (fun h1 => ?_) (fun h1 => ?_)
        | refine run_guard rfl rfl (fun h1 => ?_) (fun h1 => ?_)
        | refine run_nil ?_
        | refine aw_seq ?_
        | refine aw_region (by kernel_rfl) (Nat.le_of_ble_eq_true rfl) ?_
        | refine aw_block ?_
        | refine aw_cond_t rfl ?_
        | refine aw_cond_f rfl ?_
        | refine aw_cond_tp rfl (by omega) ?_
        | refine aw_cond_fp rfl (by omega) ?_
        | refine aw_cond1 rfl (fun h1 => ?_) (fun h1 => ?_)
        | refine aw_cond rfl (fun h1 => ?_) (fun h1 => ?_)
        | refine aw_skip ?_
        | refine aw_exit ?_
        | refine aw_ret ?_
        | refine pp_ret ?_
        | refine pp_normal ?_
      all_goals first | (refine pmw_ret _ (renumA [0, 1]) ?_; exact Wk.tupleL (.cons (Wk.aggL (.cons (.refl _) (.cons (.refl _) (.cons (.refl _) (.cons (.refl _) (.cons (.refl _) (.cons .nil (.cons .nil .nil)))))))) (.cons (.refl _) .nil))) | exact absurd (Decidable.of_not_not h1) hwd | (exfalso; omega)
  · clear h1 h2 h3 h4 h5 h6 h7 h8 h9 hp8 hq8 l1 l2 l3 l4 l5 l6 l7 l8 l9 hsl hol
    rw [dec_bad1 hread (by rw [hz]; exact hz0)] at hres
    obtain ⟨rfl, rfl⟩ := Prod.mk.inj hres.symm
    obtain rfl : s = 0 := hs.symm
    obtain rfl : o = 0 := ho.symm
    refine acalls_of_aw Try.func25 rfl rfl ?_
    refine aw_ghost 2 rfl ?_
    refine aw_ghost 2 rfl ?_
    repeat' first
      | refine st ?_
      | refine stMW [] H0 ?_
      | refine stMW [3] H1 ?_
      | refine stMW [3] H2 ?_
      | refine stMW [3] H3 ?_
      | refine stMW [3] H4 ?_
      | refine stMW [3] H5 ?_
      | refine stMW [3] H6 ?_
      | refine stMW [3] H7 ?_
      | refine stRW [3] H8 ?_
      | refine stRW [5, 6] H9 ?_
      | refine st (h := ok_makeFunc (by ((repeat (apply ArgsR.cons; rfl)); exact ArgsR.nil)) (by ((repeat (apply ArgsR.cons; rfl)); exact ArgsR.nil))) ?_
      | refine stm ?_
      | refine run_want rfl rfl ?_
      | refine run_unwant rfl rfl ?_
      | refine run_undef rfl rfl ?_
      | refine run_guard1t rfl rfl (by omega) ?_
      | refine run_guard1f rfl rfl (by omega) ?_
      | refine run_guard0t rfl rfl (by omega) ?_
      | refine run_guard0f rfl rfl (by omega) ?_
      | refine run_guard1 rfl rfl (fun h1 => ?_) (fun h1 => ?_)
      | refine run_guard0 rfl rfl (fun h1 => ?_) (fun h1 => ?_)
      | refine run_guard rfl rfl (fun h1 => ?_) (fun h1 => ?_)
      | refine run_nil ?_
      | refine aw_seq ?_
      | refine aw_region (by kernel_rfl) (Nat.le_of_ble_eq_true rfl) ?_
      | refine aw_block ?_
      | refine aw_cond_t rfl ?_
      | refine aw_cond_f rfl ?_
      | refine aw_cond_tp rfl (by omega) ?_
      | refine aw_cond_fp rfl (by omega) ?_
      | refine aw_cond1 rfl (fun h1 => ?_) (fun h1 => ?_)
      | refine aw_cond rfl (fun h1 => ?_) (fun h1 => ?_)
      | refine aw_skip ?_
      | refine aw_exit ?_
      | refine aw_ret ?_
      | refine pp_ret ?_
      | refine pp_normal ?_
    all_goals first | (refine pmw_ret _ (renumA [0, 1]) ?_; exact Wk.tupleL (.cons (Wk.aggL (.cons (.refl _) (.cons (.refl _) (.cons (.refl _) (.cons (.refl _) (.cons (.refl _) (.cons .nil (.cons .nil .nil)))))))) (.cons (.refl _) .nil))) | exact absurd (Decidable.of_not_not h1) hwd | (exfalso; omega)
end Go.Proofs.Ytjamfmnlhiolkaa
