/- CellmsgReads returns true of every input: Decode returns the message with any bytes, or ErrCorrupt.
   Conditions: none. -/
import Derived.Test.YtjamfmnlhiolkaaLZ
import Derived.Test.YtjamfmnlhiolkaaK1
import Derived.Test.YtjamfmnlhiolkaaG3
import Derived.Test.YtjamfmnlhiolkaaH5
import Derived.Test.YtjamfmnlhiolkaaJ
import Derived.Test.YtjamfmnlhiolkaaRows
set_option linter.unusedVariables false
set_option linter.unusedSimpArgs false
namespace Go.Proofs.Ytjamfmnlhiolkaa
open Go Av
set_option maxRecDepth 20000
set_option maxHeartbeats 8000000 in
theorem ac_rdecode (d : ByteArray) (hd : d.size ≤ 1000) (m : MsgT) (x : Int) (s o : Nat) (hres : decR d = (m, x)) (hs : m.2.2.2.2.2.1.length = s) (ho : m.2.2.2.2.2.2.length = o) : ACalls Try.prog 26 [.string d] [] (.tuple #[.agg #[.int .i64 m.1, .bool m.2.1, .int .i64 m.2.2.1, .int .i64 m.2.2.2.1, .int .i64 m.2.2.2.2.1, .slice (some ⟨0, 0, none⟩) s s, .slice (some ⟨1, 0, none⟩) o o], .int .i64 x]) [some ⟨m.2.2.2.2.2.1.flatMap spC, true, 2⟩, some ⟨m.2.2.2.2.2.2.flatMap spC, true, 2⟩] := by
  obtain ⟨k, a1, e1, h1⟩ : ∃ x y z, unsR d 0 0 3 = (x, y, z) := ⟨_, _, _, rfl⟩
  obtain ⟨r, a2, e2, h2⟩ : ∃ x y z, flgR d a1 e1 = (x, y, z) := ⟨_, _, _, rfl⟩
  obtain ⟨n, a3, e3, h3⟩ : ∃ x y z, unsR d a2 e2 8 = (x, y, z) := ⟨_, _, _, rfl⟩
  obtain ⟨c, a4, e4, h4⟩ : ∃ x y z, unsR d a3 e3 2 = (x, y, z) := ⟨_, _, _, rfl⟩
  obtain ⟨cnt, a5, e5, h5⟩ : ∃ x y z, unsR d a4 e4 10 = (x, y, z) := ⟨_, _, _, rfl⟩
  obtain ⟨p, a6, e6, h6⟩ : ∃ x y z, unsR d a5 e5 4 = (x, y, z) := ⟨_, _, _, rfl⟩
  obtain ⟨S, a7, e7, h7⟩ : ∃ x y z, plR d a6 e6 p.toNat = (x, y, z) := ⟨_, _, _, rfl⟩
  obtain ⟨q, a8, e8, h8⟩ : ∃ x y z, unsR d a7 e7 4 = (x, y, z) := ⟨_, _, _, rfl⟩
  obtain ⟨O, a9, e9, h9⟩ : ∃ x y z, plR d a8 e8 q.toNat = (x, y, z) := ⟨_, _, _, rfl⟩
  have hread : rdM id d = ((k, r, n, c, cnt, S, O), a9, e9) := by
    unfold rdM u_ f_ lsR
    dsimp only
    rw [h1]
    dsimp only
    rw [h2]
    dsimp only
    rw [h3]
    dsimp only
    rw [h4]
    dsimp only
    rw [h5]
    dsimp only
    rw [h6]
    dsimp only [id]
    rw [h7]
    dsimp only
    rw [h8]
    dsimp only [id]
    rw [h9]
  have l1 := unsR_le h1 (Nat.zero_le _) (by decide)
  have l2 := flgR_le h2 l1
  have l3 := unsR_le h3 l2 (by decide)
  have l4 := unsR_le h4 l3 (by decide)
  have l5 := unsR_le h5 l4 (by decide)
  have l6 := unsR_le h6 l5 (by decide)
  have l7 := plR_le h7 l6
  have l8 := unsR_le h8 l7 (by decide)
  have l9 := plR_le h9 l8
  obtain ⟨p0, hp⟩ := Int.eq_ofNat_of_zero_le (unsR_rng h6 (by decide)).1
  obtain ⟨q0, hq⟩ := Int.eq_ofNat_of_zero_le (unsR_rng h8 (by decide)).1
  rw [show p.toNat = p0 by omega] at h7
  rw [show q.toNat = q0 by omega] at h9
  have hsl := plR_len h7
  have hol := plR_len h9
  have hp15 := (unsR_rng h6 (by decide)).2
  have hq15 := (unsR_rng h8 (by decide)).2
  rw [show ((2 : Int) ^ (4 : Int).toNat) = 16 from rfl] at hp15 hq15
  have r0 : RR d 0 0 d 0 := ⟨fun _ => ⟨rfl, rfl⟩, fun h => absurd rfl h⟩
  obtain ⟨d1, b1, r1⟩ := rr_ex2 d a1 e1
  obtain ⟨d2, b2, r2⟩ := rr_ex2 d a2 e2
  obtain ⟨d3, b3, r3⟩ := rr_ex2 d a3 e3
  obtain ⟨d4, b4, r4⟩ := rr_ex2 d a4 e4
  obtain ⟨d5, b5, r5⟩ := rr_ex2 d a5 e5
  obtain ⟨d7, b7, r7⟩ := rr_ex2 d a7 e7
  obtain ⟨d9, b9, r9⟩ := rr_ex2 d a9 e9
  have H0 := ac_rrnew d (by omega)
  have H1 := ac_runsR 3 0 e1 k 0 a1 d d d1 0 b1 h1 r0 r1 (Nat.zero_le _) (by omega) (by decide)
  have H2 := ac_rflgR e1 e2 r a1 a2 d d1 d2 b1 b2 h2 r1 r2 l1 (by omega)
  have H3 := ac_runsR 8 e2 e3 n a2 a3 d d2 d3 b2 b3 h3 r2 r3 l2 (by omega) (by decide)
  have H4 := ac_runsR 2 e3 e4 c a3 a4 d d3 d4 b3 b4 h4 r3 r4 l3 (by omega) (by decide)
  have H5 := ac_runsR 10 e4 e5 cnt a4 a5 d d4 d5 b4 b5 h5 r4 r5 l4 (by omega) (by decide)
  have H6 := ac_rread d d5 d7 b5 b7 a5 a6 a7 e5 e6 e7 p p0 S h6 hp h7 r5 r7 l5 (by omega)
  have H7 := ac_rread d d7 d9 b7 b9 a7 a8 a9 e7 e8 e9 q q0 O h8 hq h9 r7 r9 l7 (by omega)
  obtain ⟨z, hz⟩ : ∃ z, closeR d a9 e9 = z := ⟨_, rfl⟩
  have H8 := ac_rcloseR e9 z a9 d d9 b9 hz r9 l9 (by omega)
  obtain ⟨y, hy⟩ : ∃ y, chk k n c cnt r S O = y := ⟨_, rfl⟩
  have H9 := ac_rcheck k n c cnt y r S O _ _ hsl hol hy
  by_cases hz0 : z = 0
  · subst hz0
    by_cases hy0 : y = 0
    · subst hy0
      rw [rdec_good hread hz hy] at hres
      obtain ⟨rfl, rfl⟩ := Prod.mk.inj hres.symm
      obtain rfl : s = p0 := hs.symm.trans hsl
      obtain rfl : o = q0 := ho.symm.trans hol
      clear hread h1 h2 h3 h4 h5 h6 h7 h8 h9 hp hq hy hz hres l1 l2 l3 l4 l5 l6 l7 l8 l9 hsl hol hs ho
      dsimp only
      refine acalls_of_aw Try.func26 rfl rfl ?_
      refine aw_ghost 2 rfl ?_
      refine aw_ghost 2 rfl ?_
      repeat' first
        | refine st ?_
        | refine stMW [] H0 ?_
        | refine stMW [3] H1 ?_
        | refine stMW [3] H2 ?_
        | refine stMW [3] H3 ?_
        | refine stMW [3] H4 ?_
        | refine stMW [3] H5 ?_
        | refine stMW [3] H6 ?_
        | refine stMW [3] H7 ?_
        | refine stRW [3] H8 ?_
        | refine stRW [5, 6] H9 ?_
        | refine stm ?_
        | refine run_want rfl rfl ?_
        | refine run_unwant rfl rfl ?_
        | refine run_undef rfl rfl ?_
        | refine run_guard1t rfl rfl (by omega) ?_
        | refine run_guard1f rfl rfl (by omega) ?_
        | refine run_guard0t rfl rfl (by omega) ?_
        | refine run_guard0f rfl rfl (by omega) ?_
        | refine run_guard1 rfl rfl (fun h1 => ?_) (fun h1 => ?_)
        | refine run_guard0 rfl rfl (fun h1 => ?_) (fun h1 => ?_)
        | refine run_guard rfl rfl (fun h1 => ?_) (fun h1 => ?_)
        | refine run_nil ?_
        | refine aw_seq ?_
        | refine aw_region (by kernel_rfl) (Nat.le_of_ble_eq_true rfl) ?_
        | refine aw_block ?_
        | refine aw_cond_t rfl ?_
        | refine aw_cond_f rfl ?_
        | refine aw_cond_tp rfl (by omega) ?_
        | refine aw_cond_fp rfl (by omega) ?_
        | refine aw_cond1 rfl (fun h1 => ?_) (fun h1 => ?_)
        | refine aw_cond rfl (fun h1 => ?_) (fun h1 => ?_)
        | refine aw_skip ?_
        | refine aw_exit ?_
        | refine aw_ret ?_
        | refine pp_ret ?_
        | refine pp_normal ?_
      all_goals first | exact pm_ret _ (renumD [5, 6]) rfl | (exfalso; omega)
    · clear h1 h2 h3 h4 h5 h6 h7 h8 h9 hp hq l1 l2 l3 l4 l5 l6 l7 l8 l9 hsl hol
      rw [rdec_bad2 hread hz (by rw [chkM_eq, hy]; exact hy0)] at hres
      obtain ⟨rfl, rfl⟩ := Prod.mk.inj hres.symm
      obtain rfl : s = 0 := hs.symm
      obtain rfl : o = 0 := ho.symm
      refine acalls_of_aw Try.func26 rfl rfl ?_
      refine aw_ghost 2 rfl ?_
      refine aw_ghost 2 rfl ?_
      repeat' first
        | refine st ?_
        | refine stMW [] H0 ?_
        | refine stMW [3] H1 ?_
        | refine stMW [3] H2 ?_
        | refine stMW [3] H3 ?_
        | refine stMW [3] H4 ?_
        | refine stMW [3] H5 ?_
        | refine stMW [3] H6 ?_
        | refine stMW [3] H7 ?_
        | refine stRW [3] H8 ?_
        | refine stRW [5, 6] H9 ?_
        | refine stm ?_
        | refine run_want rfl rfl ?_
        | refine run_unwant rfl rfl ?_
        | refine run_undef rfl rfl ?_
        | refine run_guard1t rfl rfl (by omega) ?_
        | refine run_guard1f rfl rfl (by omega) ?_
        | refine run_guard0t rfl rfl (by omega) ?_
        | refine run_guard0f rfl rfl (by omega) ?_
        | refine run_guard1 rfl rfl (fun h1 => ?_) (fun h1 => ?_)
        | refine run_guard0 rfl rfl (fun h1 => ?_) (fun h1 => ?_)
        | refine run_guard rfl rfl (fun h1 => ?_) (fun h1 => ?_)
        | refine run_nil ?_
        | refine aw_seq ?_
        | refine aw_region (by kernel_rfl) (Nat.le_of_ble_eq_true rfl) ?_
        | refine aw_block ?_
        | refine aw_cond_t rfl ?_
        | refine aw_cond_f rfl ?_
        | refine aw_cond_tp rfl (by omega) ?_
        | refine aw_cond_fp rfl (by omega) ?_
        | refine aw_cond1 rfl (fun h1 => ?_) (fun h1 => ?_)
        | refine aw_cond rfl (fun h1 => ?_) (fun h1 => ?_)
        | refine aw_skip ?_
        | refine aw_exit ?_
        | refine aw_ret ?_
        | refine pp_ret ?_
        | refine pp_normal ?_
      all_goals first | (refine pmw_ret _ (renumA [0, 1]) ?_; exact Wk.tupleL (.cons (Wk.aggL (.cons (.refl _) (.cons (.refl _) (.cons (.refl _) (.cons (.refl _) (.cons (.refl _) (.cons .nil (.cons .nil .nil)))))))) (.cons (.refl _) .nil))) | (exfalso; omega)
  · clear h1 h2 h3 h4 h5 h6 h7 h8 h9 hp hq l1 l2 l3 l4 l5 l6 l7 l8 l9 hsl hol
    rw [rdec_bad1 hread (by rw [hz]; exact hz0)] at hres
    obtain ⟨rfl, rfl⟩ := Prod.mk.inj hres.symm
    obtain rfl : s = 0 := hs.symm
    obtain rfl : o = 0 := ho.symm
    refine acalls_of_aw Try.func26 rfl rfl ?_
    refine aw_ghost 2 rfl ?_
    refine aw_ghost 2 rfl ?_
    repeat' first
      | refine st ?_
      | refine stMW [] H0 ?_
      | refine stMW [3] H1 ?_
      | refine stMW [3] H2 ?_
      | refine stMW [3] H3 ?_
      | refine stMW [3] H4 ?_
      | refine stMW [3] H5 ?_
      | refine stMW [3] H6 ?_
      | refine stMW [3] H7 ?_
      | refine stRW [3] H8 ?_
      | refine stRW [5, 6] H9 ?_
      | refine stm ?_
      | refine run_want rfl rfl ?_
      | refine run_unwant rfl rfl ?_
      | refine run_undef rfl rfl ?_
      | refine run_guard1t rfl rfl (by omega) ?_
      | refine run_guard1f rfl rfl (by omega) ?_
      | refine run_guard0t rfl rfl (by omega) ?_
      | refine run_guard0f rfl rfl (by omega) ?_
      | refine run_guard1 rfl rfl (fun h1 => ?_) (fun h1 => ?_)
      | refine run_guard0 rfl rfl (fun h1 => ?_) (fun h1 => ?_)
      | refine run_guard rfl rfl (fun h1 => ?_) (fun h1 => ?_)
      | refine run_nil ?_
      | refine aw_seq ?_
      | refine aw_region (by kernel_rfl) (Nat.le_of_ble_eq_true rfl) ?_
      | refine aw_block ?_
      | refine aw_cond_t rfl ?_
      | refine aw_cond_f rfl ?_
      | refine aw_cond_tp rfl (by omega) ?_
      | refine aw_cond_fp rfl (by omega) ?_
      | refine aw_cond1 rfl (fun h1 => ?_) (fun h1 => ?_)
      | refine aw_cond rfl (fun h1 => ?_) (fun h1 => ?_)
      | refine aw_skip ?_
      | refine aw_exit ?_
      | refine aw_ret ?_
      | refine pp_ret ?_
      | refine pp_normal ?_
    all_goals first | (refine pmw_ret _ (renumA [0, 1]) ?_; exact Wk.tupleL (.cons (Wk.aggL (.cons (.refl _) (.cons (.refl _) (.cons (.refl _) (.cons (.refl _) (.cons (.refl _) (.cons .nil (.cons .nil .nil)))))))) (.cons (.refl _) .nil))) | (exfalso; omega)
set_option maxHeartbeats 4000000 in
theorem law_reads (d : ByteArray) : ACalls Try.prog 8 [.string d] [] (.bool true) [] := by
  by_cases hd : d.size ≤ 100
  · obtain ⟨m, x, hres⟩ : ∃ m x, decP d = (m, x) := ⟨_, _, rfl⟩
    have H1 := ac_decode d (by omega) m x _ _ hres rfl rfl
    rw [dec_same] at hres
    have H2 := ac_rdecode d (by omega) m x _ _ hres rfl rfl
    obtain ⟨s, hs⟩ : ∃ s, m.2.2.2.2.2.1.length = s := ⟨_, rfl⟩
    obtain ⟨o, ho⟩ : ∃ o, m.2.2.2.2.2.2.length = o := ⟨_, rfl⟩
    rw [hs, ho] at H1 H2
    have hlen : s ≤ 8 ∧ o ≤ 8 := by
      rw [← dec_same] at hres
      rcases decP_cases d with h | ⟨m', h, h2, _⟩
      · rw [h] at hres
        obtain ⟨rfl, _⟩ := Prod.mk.inj hres
        rw [← hs, ← ho]; exact ⟨by decide, by decide⟩
      · rw [h] at hres
        obtain ⟨rfl, _⟩ := Prod.mk.inj hres
        rw [← hs, ← ho]; exact (chk_zero h2).2.2.2.2.1
    clear hres
    obtain ⟨k, r, n, c, cnt, S, O⟩ := m
    dsimp only at hs ho H1 H2
    have H3 := ac_same k n c cnt k n c cnt r r S O S O s o s o hs ho hs ho (by omega) (by omega) (by omega) (by omega) true (sameM_iff.2 rfl)
    refine acalls_law Try.func8 rfl rfl rfl ?_
    repeat' first
      | refine st ?_
      | refine st_call (ac_awake) ?_
      | refine stMW [] H1 ?_
      | refine stMW [] H2 ?_
      | refine stRW [0, 1, 3, 4] H3 ?_
      | refine stm ?_
      | refine run_want rfl rfl ?_
      | refine run_unwant rfl rfl ?_
      | refine run_undef rfl rfl ?_
      | refine run_guard1t rfl rfl (by omega) ?_
      | refine run_guard1f rfl rfl (by omega) ?_
      | refine run_guard0t rfl rfl (by omega) ?_
      | refine run_guard0f rfl rfl (by omega) ?_
      | refine run_guard1 rfl rfl (fun h1 => ?_) (fun h1 => ?_)
      | refine run_guard0 rfl rfl (fun h1 => ?_) (fun h1 => ?_)
      | refine run_guard rfl rfl (fun h1 => ?_) (fun h1 => ?_)
      | refine run_nil ?_
      | refine aw_seq ?_
      | refine aw_region (by kernel_rfl) (Nat.le_of_ble_eq_true rfl) ?_
      | refine aw_block ?_
      | refine aw_cond_t rfl ?_
      | refine aw_cond_f rfl ?_
      | refine aw_cond_tp rfl (by omega) ?_
      | refine aw_cond_fp rfl (by omega) ?_
      | refine aw_cond1 rfl (fun h1 => ?_) (fun h1 => ?_)
      | refine aw_cond rfl (fun h1 => ?_) (fun h1 => ?_)
      | refine aw_skip ?_
      | refine aw_exit ?_
      | refine aw_ret ?_
      | refine pp_ret ?_
      | refine pp_normal ?_
    all_goals first
      | rfl
      | (exfalso; omega)
      | (simp [retOf]; done)
      | (exfalso; simp_all; done)
  · refine acalls_law Try.func8 rfl rfl rfl ?_
    repeat' first
      | refine st ?_
      | refine st_call (ac_awake) ?_
      | refine stm ?_
      | refine run_want rfl rfl ?_
      | refine run_unwant rfl rfl ?_
      | refine run_undef rfl rfl ?_
      | refine run_guard1t rfl rfl (by omega) ?_
      | refine run_guard1f rfl rfl (by omega) ?_
      | refine run_guard0t rfl rfl (by omega) ?_
      | refine run_guard0f rfl rfl (by omega) ?_
      | refine run_guard1 rfl rfl (fun h1 => ?_) (fun h1 => ?_)
      | refine run_guard0 rfl rfl (fun h1 => ?_) (fun h1 => ?_)
      | refine run_guard rfl rfl (fun h1 => ?_) (fun h1 => ?_)
      | refine run_nil ?_
      | refine aw_seq ?_
      | refine aw_region (by kernel_rfl) (Nat.le_of_ble_eq_true rfl) ?_
      | refine aw_block ?_
      | refine aw_cond_t rfl ?_
      | refine aw_cond_f rfl ?_
      | refine aw_cond_tp rfl (by omega) ?_
      | refine aw_cond_fp rfl (by omega) ?_
      | refine aw_cond1 rfl (fun h1 => ?_) (fun h1 => ?_)
      | refine aw_cond rfl (fun h1 => ?_) (fun h1 => ?_)
      | refine aw_skip ?_
      | refine aw_exit ?_
      | refine aw_ret ?_
      | refine pp_ret ?_
      | refine pp_normal ?_
    all_goals first
      | rfl
      | (exfalso; omega)
      | (simp [retOf]; done)
      | (exfalso; simp_all; done)
open Go.ChangeShapes Go.WideShapes Go.ChangeAt Go.RowKit
namespace cellmsgReads
theorem own : ownKnob Try.prog.godebug = none := by kernel_rfl
set_option maxRecDepth 100000 in
theorem lifted (os : Os) (started : os.Started) (H : Type) (enc : TypeId × Value → H) :
    ReturnsInHanded {} Try.checked os 8 .any (Rows.cellmsgReadsSpec.pre6 enc Try.prog Try.f8 Rows.cellmsgReadsRow.domain false) (Rows.cellmsgReadsSpec.post enc Try.prog Try.f8 false true false false) := by
  refine returnsInHanded_of_change_sized (C := Try.checked) own started (by kernel_rfl) Try.func8
    (ChangeSpec.witness6 (enc := enc) (C := Try.checked) false ⟨#[], #[.string .empty], []⟩ 8 (by kernel_rfl) (by kernel_rfl) (by kernel_rfl) (by kernel_rfl)) ?_
  intro W base args ds gs before hval0 hW _ hsz _
  obtain ⟨p, q, hA0, hV, hbf, hfz, hnd⟩ := id hW
  have hA : DataW.TrodAll enc Try.prog W 0 (fun _ => true) true [9] args.toList ds p := hA0
  obtain ⟨a, hR, ls, hl, hv, hc⟩ := RdA.rd (P := Try.prog) hA fun j t v h1 h2 => hval0 j t v (by rw [← Array.getElem?_toList]; exact h1) (by rw [← Array.getElem?_toList]; exact h2)
  have hcall := calls_rd0 (P := Try.prog) (f := 8) (r := .bool true) (W := W) (by
    exact ⟨_, law_reads a.1⟩) rfl hl (hv 0) hc
  obtain ⟨v0, vs0, d0, ds0, p0, q0, x0, rfl, y0, h0, r0⟩ := trodAll_cons hA
  obtain ⟨_, rfl, _⟩ := trodAll_nil r0
  exact hcall.mono fun e W' ⟨he, hb⟩ => ⟨_, he, law_post (tb := 4) (by kernel_rfl) (by kernel_rfl) rfl Try.underlying4 rfl rfl rfl rfl hW hb⟩
theorem over : Rows.cellmsgReadsRow.holds Try.pinned (OpenSpec.ofChange Rows.cellmsgReadsSpec) :=
  OpenClaim.holds_of_wide 8 Try.f8 rfl rfl rfl rfl rfl rfl rfl ⟨rfl, rfl, rfl, rfl, rfl⟩ rfl rfl rfl rfl rfl (by kernel_rfl) Try.func8 (by kernel_rfl)
    (of_decide_eq_true (by kernel_rfl)) (by unfold Func.isWrapper; first | (rw [if_pos (by decide +kernel)]; kernel_rfl) | (rw [if_neg (by decide +kernel)]; exact ⟨rfl, rfl⟩))
    (fun os started H enc _ => lifted os started H enc)
theorem proved : Rows.CellmsgReadsSaid := over
#print axioms proved
end cellmsgReads
end Go.Proofs.Ytjamfmnlhiolkaa
