/- Bits: the reader's end, the reference's reader; Offers: hopping lists are read; Offers: Decode of the reference. -/
import Derived.Test.YtdbcbclapipgdaaGreatDoorVO
import Derived.Test.YtdbcbclapipgdaaGreatDoorJ
import Derived.Test.YtdbcbclapipgdaaGreatDoorC8
import Derived.Test.YtdbcbclapipgdaaGreatDoorC11
set_option linter.unusedVariables false
set_option linter.unusedSimpArgs false
namespace Go.Proofs.YtdbcbclapipgdaaGreatDoor
open Go Av
set_option maxRecDepth 20000
set_option maxHeartbeats 1000000 in
theorem ac_rcloseR (e c : Int) (a : Nat) (d d2 : ByteArray) (a2 : Int) (hst : closeR d a e = c) (hr : RR d a e d2 a2) (ha : a ≤ 8 * d.size) (hd : d.size ≤ 1000000) : ACalls Tryz.prog 138 [.pointer (some ⟨0, 0, none⟩)] [some ⟨[.string d2, .int .i64 a2, .int .i64 e], false, 1⟩] (.int .i64 c) [none] := by
  unfold closeR at hst
  by_cases he : e = 0
  · subst he
    rw [if_neg (by simp)] at hst
    obtain ⟨rfl, rfl⟩ := hr.1 rfl
    have HL := ac_rrleft a 0 d2 (by omega) hd
    by_cases h8 : 8 ≤ 8 * d2.size - a
    · rw [if_pos (.inl h8)] at hst
      subst hst
      refine acalls_law Tryz.func138 rfl rfl rfl ?_
      repeat' first | intro h1 | refine st ?_ | refine stRW [0] HL ?_ | refine stm ?_ | refine Ja ?_ | refine Jb ?_ | refine Jc ?_ | refine Jd ?_ | refine Je ?_ | refine Jf ?_ | refine Jg ?_ | refine Jh ?_ ?_ | refine Ji ?_ ?_ | refine Jj ?_ ?_ | refine run_nil ?_ | refine Jz ?_ | refine Jw ?_ | refine aw_block ?_ | refine Jq ?_ | refine Jr ?_ | refine Js ?_ | refine Jt ?_ | refine Ju ?_ ?_ | refine Jv ?_ ?_ | refine Jy ?_ | refine aw_exit ?_ | refine aw_ret ?_ | refine pp_ret ?_ | refine pp_normal ?_
      all_goals first | rfl | (exfalso; omega)
    · refine acalls_law Tryz.func138 rfl rfl rfl ?_
      repeat' first | intro h1 | refine st ?_ | refine stRW [0] HL ?_ | refine stm ?_ | refine Ja ?_ | refine Jb ?_ | refine Jc ?_ | refine Jd ?_ | refine Je ?_ | refine Jf ?_ | refine Jg ?_ | refine Jh ?_ ?_ | refine Ji ?_ ?_ | refine Jj ?_ ?_ | refine run_nil ?_ | refine Jz ?_ | refine Jw ?_ | refine aw_block ?_ | refine Jq ?_ | refine Jr ?_ | refine Js ?_ | refine Jt ?_ | refine Ju ?_ ?_ | refine Jv ?_ ?_ | refine Jy ?_ | refine aw_exit ?_ | refine aw_ret ?_ | refine pp_ret ?_ | refine pp_normal ?_
      refine aw_loopg
        (S := fun y : Zg => [(0, .pointer (some ⟨0, 0, none⟩)), (3, .int .i64 ((a + y.i : Nat) : Int))])
        (B := fun y : Zg => [some ⟨[.string d2, .int .i64 (a : Int), .int .i64 0], false, 1⟩])
        (R := fun y : Zg => a + y.i ≤ 8 * d2.size ∧ ∀ j, j < y.i → bitD d2 (a + j) = 0)
        (μ := fun y : Zg => 8 * d2.size - y.i) ⟨0⟩ (fitsD [0]) ⟨ha, fun j hj => absurd hj (Nat.not_lt_zero j)⟩ ?_
      rintro ⟨i⟩ ⟨g1, g2⟩
      dsimp only at *
      by_cases hi : a + i < 8 * d2.size
      · have e1 : min (7 - ((a + i : Nat) : Int) % 8).toNat IntKind.i64.bits = 7 - (a + i) % 8 := by show min (7 - ((a + i : Nat) : Int) % 8).toNat 64 = _; omega
        have e2 : (((a + i : Nat) : Int) / 8).toNat = (a + i) / 8 := by omega
        have e3 := bv_and1 .i64 (.inr rfl) (((byteAt d2 (((a + i : Nat) : Int) / 8).toNat).toNat : Int) / 2 ^ (min (7 - ((a + i : Nat) : Int) % 8).toNat IntKind.i64.bits))
        rw [e1, e2] at e3
        have hbd := bitD_bd d2 (a + i)
        rw [← bitD, ← e1, ← e2] at e3
        by_cases hb : bitD d2 (a + i) = 0
        · rw [hb] at e3
          repeat' first | intro h1 | refine st (h := ok_conv_u8 rfl (by decide)) ?_ | refine st ?_ | refine stm ?_ | refine Ja ?_ | refine Jb ?_ | refine Jc ?_ | refine Jd ?_ | refine Je ?_ | refine Jf ?_ | refine Jg ?_ | refine Jh ?_ ?_ | refine Ji ?_ ?_ | refine Jj ?_ ?_ | refine run_nil ?_ | refine Jz ?_ | refine Jw ?_ | refine aw_block ?_ | refine Jq ?_ | refine Jr ?_ | refine Js ?_ | refine Jt ?_ | refine Ju ?_ ?_ | refine Jv ?_ ?_ | refine Jy ?_ | refine aw_exit ?_ | refine aw_ret ?_ | refine pp_ret ?_ | refine pp_normal ?_
          refine Exists.intro ⟨i + 1⟩ ⟨fitsD [0], ⟨by dsimp only; omega, fun j hj => ?_⟩, by dsimp only; omega⟩
          rcases Nat.lt_or_ge j i with h' | h'
          · exact g2 j h'
          · obtain rfl : j = i := by dsimp only at hj; omega
            exact hb
        · rw [show bitD d2 (a + i) = 1 by omega] at e3
          rw [if_pos (.inr (rdN_one d2 a i hb _ (by omega)))] at hst
          subst hst
          repeat' first | intro h1 | refine st (h := ok_conv_u8 rfl (by decide)) ?_ | refine st ?_ | refine stm ?_ | refine Ja ?_ | refine Jb ?_ | refine Jc ?_ | refine Jd ?_ | refine Je ?_ | refine Jf ?_ | refine Jg ?_ | refine Jh ?_ ?_ | refine Ji ?_ ?_ | refine Jj ?_ ?_ | refine run_nil ?_ | refine Jz ?_ | refine Jw ?_ | refine aw_block ?_ | refine Jq ?_ | refine Jr ?_ | refine Js ?_ | refine Jt ?_ | refine Ju ?_ ?_ | refine Jv ?_ ?_ | refine Jy ?_ | refine aw_exit ?_ | refine aw_ret ?_ | refine pp_ret ?_ | refine pp_normal ?_
          all_goals first | rfl | (exfalso; omega)
      · rw [if_neg (by rintro (h | h); exact h8 h; exact h (rdN_zero d2 a _ fun j hj => g2 j (by omega)))] at hst
        subst hst
        repeat' first | intro h1 | refine st ?_ | refine stm ?_ | refine Ja ?_ | refine Jb ?_ | refine Jc ?_ | refine Jd ?_ | refine Je ?_ | refine Jf ?_ | refine Jg ?_ | refine Jh ?_ ?_ | refine Ji ?_ ?_ | refine Jj ?_ ?_ | refine run_nil ?_ | refine Jz ?_ | refine Jw ?_ | refine aw_block ?_ | refine Jq ?_ | refine Jr ?_ | refine Js ?_ | refine Jt ?_ | refine Ju ?_ ?_ | refine Jv ?_ ?_ | refine Jy ?_ | refine aw_exit ?_ | refine aw_ret ?_ | refine pp_ret ?_ | refine pp_normal ?_
        all_goals first | rfl | (exfalso; omega)
  · rw [if_pos he] at hst
    subst hst
    obtain ⟨rfl, rfl⟩ := hr.2 he
    refine acalls_law Tryz.func138 rfl rfl rfl ?_
    repeat' first | intro h1 | refine st ?_ | refine stm ?_ | refine Ja ?_ | refine Jb ?_ | refine Jc ?_ | refine Jd ?_ | refine Je ?_ | refine Jf ?_ | refine Jg ?_ | refine Jh ?_ ?_ | refine Ji ?_ ?_ | refine Jj ?_ ?_ | refine run_nil ?_ | refine Jz ?_ | refine Jw ?_ | refine aw_block ?_ | refine Jq ?_ | refine Jr ?_ | refine Js ?_ | refine Jt ?_ | refine Ju ?_ ?_ | refine Jv ?_ ?_ | refine Jy ?_ | refine aw_exit ?_ | refine aw_ret ?_ | refine pp_ret ?_ | refine pp_normal ?_
    all_goals first | rfl | (exfalso; omega)
theorem rr_ex2 (d : ByteArray) (a : Nat) (e : Int) : ∃ d2 a2, RR d a e d2 a2 := by
  by_cases he : e = 0
  · exact ⟨d, a, fun _ => ⟨rfl, rfl⟩, fun h => absurd he h⟩
  · exact ⟨⟨#[]⟩, 0, fun h => absurd h he, fun _ => ⟨rfl, rfl⟩⟩
set_option maxHeartbeats 8000000 in
theorem ac_rodecode (d : ByteArray) (hd : d.size ≤ 1000) (m : OfT) (x : Int) (n : Nat) (hres : decO d = (m, x)) (hn : m.2.2.2.2.2.2.length = n) : ACalls Tryz.prog 118 [.string d] [] (.tuple #[.agg #[.int .i64 m.1, .bool m.2.1, .string m.2.2.1, .int .i64 m.2.2.2.1, .int .i64 m.2.2.2.2.1, .int .i64 m.2.2.2.2.2.1, .slice (some ⟨0, 0, none⟩) n n], .int .i64 x]) [some ⟨List.map (Value.int .i64) m.2.2.2.2.2.2, true, 1⟩] := by
  obtain ⟨root, a1, e1, h1⟩ : ∃ x y z, unsR d 0 0 5 = (x, y, z) := ⟨_, _, _, rfl⟩
  obtain ⟨op, a2, e2, h2⟩ : ∃ x y z, flgR d a1 e1 = (x, y, z) := ⟨_, _, _, rfl⟩
  obtain ⟨run, a3, e3, h3⟩ : ∃ x y z, txtR d a2 e2 8 = (x, y, z) := ⟨_, _, _, rfl⟩
  obtain ⟨fl, a4, e4, h4⟩ : ∃ x y z, flgR d a3 e3 = (x, y, z) := ⟨_, _, _, rfl⟩
  have l1 := unsR_le h1 (Nat.zero_le _) (by decide)
  have l2 := flgR_le h2 l1
  have l3 := txtR_le h3 l2 (by decide)
  have l4 := flgR_le h4 l3
  have r0 : RR d 0 0 d 0 := ⟨fun _ => ⟨rfl, rfl⟩, fun h => absurd rfl h⟩
  obtain ⟨d1, b1, r1⟩ := rr_ex2 d a1 e1
  obtain ⟨d2, b2, r2⟩ := rr_ex2 d a2 e2
  obtain ⟨d3, b3, r3⟩ := rr_ex2 d a3 e3
  obtain ⟨d4, b4, r4⟩ := rr_ex2 d a4 e4
  have H0 := ac_rrnew d (by omega)
  have H1 := ac_runsR 5 0 e1 root 0 a1 d d d1 0 b1 h1 r0 r1 (Nat.zero_le _) (by omega) (by decide)
  have H2 := ac_rflgR e1 e2 op a1 a2 d d1 d2 b1 b2 h2 r1 r2 l1 (by omega)
  have H3 := ac_rtxtR 8 e2 e3 run a2 a3 d d2 d3 b2 b3 h3 r2 r3 l2 (by omega) (by decide)
  have H4 := ac_rflgR e3 e4 fl a3 a4 d d3 d4 b3 b4 h4 r3 r4 l3 (by omega)
  cases fl
  · skip
    have hread : rdO d = ((root, op, run, 0, 0, 0, []), a4, e4) := by
      unfold rdO u_ f_ t_
      dsimp only
      rw [h1]; dsimp only
      rw [h2]; dsimp only
      rw [h3]; dsimp only
      rw [h4]; dsimp only
      rw [if_neg (by decide)]
    have H8 := ac_rcloseR e4 _ a4 d d4 b4 rfl r4 l4 (by omega)
    have HN := ac_empty 0 0 0 0 true rfl
    obtain ⟨z, hz⟩ : ∃ z, closeR d a4 e4 = z := ⟨_, rfl⟩
    rw [hz] at H8
    obtain ⟨y, hy⟩ : ∃ y, chkO root run 0 0 0 [] = y := ⟨_, rfl⟩
    have H9 := ac_rocheck root op run 0 0 0 [] 0 rfl (by decide) y hy
    by_cases hz0 : z = 0
    · subst hz0
      by_cases hy0 : y = 0
      · subst hy0
        rw [dec_good hread hz hy] at hres
        obtain ⟨rfl, rfl⟩ := Prod.mk.inj hres.symm
        obtain rfl : n = 0 := hn.symm
        clear hread h1 h2 h3 h4 hy hz hres l1 l2 l3 l4 hn
        dsimp only
        refine acalls_of_aw Tryz.func118 rfl rfl ?_
        refine aw_ghost 1 rfl ?_
        repeat' first | intro h1 | refine st ?_ | refine stMW [] H0 ?_ | refine stMW [2] H1 ?_ | refine stMW [2] H2 ?_ | refine stMW [2] H3 ?_ | refine stMW [2] H4 ?_ | refine stRW [2] H8 ?_ | refine stRW [0] H9 ?_ | refine stRW [0] HN ?_ | refine stm ?_ | refine Ja ?_ | refine Jb ?_ | refine Jc ?_ | refine Jd ?_ | refine Je ?_ | refine Jf ?_ | refine Jg ?_ | refine Jh ?_ ?_ | refine Ji ?_ ?_ | refine Jj ?_ ?_ | refine run_nil ?_ | refine sd ?_ | refine sdl ?_ | refine sdm (n := 1) ?_ | refine sdm ?_ | refine sdb ?_ | refine Jk ?_ | refine Jl ?_ | refine Jm ?_ | refine Jn ?_ ?_ | refine Jo ?_ ?_ | refine Jp ?_ ?_ | refine rund_nil ?_ | refine Jz ?_ | refine Jw ?_ | refine J0 (id := 14) [0,1,3,0,8,24,63,127,255,511] 6 ?_ | refine aw_block ?_ | refine Jq ?_ | refine Jr ?_ | refine Js ?_ | refine Jt ?_ | refine Ju ?_ ?_ | refine Jv ?_ ?_ | refine Jy ?_ | refine aw_exit ?_ | refine aw_ret ?_ | refine pp_ret ?_ | refine pp_normal ?_
        all_goals first | (refine pmw_ret _ (renumA [0]) ?_; exact Wk.tupleL (.cons (Wk.aggL (.cons (.refl _) (.cons (.refl _) (.cons (.refl _) (.cons (.refl _) (.cons (.refl _) (.cons (.refl _) (.cons .nil .nil)))))))) (.cons (.refl _) .nil))) | (exfalso; omega) | (exfalso; simp_all; done)
      · rw [dec_bad2 hread hz (fun h => hy0 (hy.symm.trans h))] at hres
        obtain ⟨rfl, rfl⟩ := Prod.mk.inj hres.symm
        obtain rfl : n = 0 := hn.symm
        clear hread h1 h2 h3 h4 hy hz hres l1 l2 l3 l4 hn
        refine acalls_of_aw Tryz.func118 rfl rfl ?_
        refine aw_ghost 1 rfl ?_
        repeat' first | intro h1 | refine st ?_ | refine stMW [] H0 ?_ | refine stMW [2] H1 ?_ | refine stMW [2] H2 ?_ | refine stMW [2] H3 ?_ | refine stMW [2] H4 ?_ | refine stRW [2] H8 ?_ | refine stRW [0] H9 ?_ | refine stRW [0] HN ?_ | refine stm ?_ | refine Ja ?_ | refine Jb ?_ | refine Jc ?_ | refine Jd ?_ | refine Je ?_ | refine Jf ?_ | refine Jg ?_ | refine Jh ?_ ?_ | refine Ji ?_ ?_ | refine Jj ?_ ?_ | refine run_nil ?_ | refine sd ?_ | refine sdl ?_ | refine sdm (n := 1) ?_ | refine sdm ?_ | refine sdb ?_ | refine Jk ?_ | refine Jl ?_ | refine Jm ?_ | refine Jn ?_ ?_ | refine Jo ?_ ?_ | refine Jp ?_ ?_ | refine rund_nil ?_ | refine Jz ?_ | refine Jw ?_ | refine J0 (id := 14) [0,1,3,0,8,24,63,127,255,511] 6 ?_ | refine aw_block ?_ | refine Jq ?_ | refine Jr ?_ | refine Js ?_ | refine Jt ?_ | refine Ju ?_ ?_ | refine Jv ?_ ?_ | refine Jy ?_ | refine aw_exit ?_ | refine aw_ret ?_ | refine pp_ret ?_ | refine pp_normal ?_
        all_goals first | (refine pmw_ret _ (renumA [0]) ?_; exact Wk.tupleL (.cons (Wk.aggL (.cons (.refl _) (.cons (.refl _) (.cons (.refl _) (.cons (.refl _) (.cons (.refl _) (.cons (.refl _) (.cons .nil .nil)))))))) (.cons (.refl _) .nil))) | (exfalso; omega) | (exfalso; simp_all; done)
    · rw [dec_bad1 hread (by rw [hz]; exact hz0)] at hres
      obtain ⟨rfl, rfl⟩ := Prod.mk.inj hres.symm
      obtain rfl : n = 0 := hn.symm
      clear hread h1 h2 h3 h4 hy hz hres l1 l2 l3 l4 hn
      refine acalls_of_aw Tryz.func118 rfl rfl ?_
      refine aw_ghost 1 rfl ?_
      repeat' first | intro h1 | refine st ?_ | refine stMW [] H0 ?_ | refine stMW [2] H1 ?_ | refine stMW [2] H2 ?_ | refine stMW [2] H3 ?_ | refine stMW [2] H4 ?_ | refine stRW [2] H8 ?_ | refine stRW [0] H9 ?_ | refine stRW [0] HN ?_ | refine stm ?_ | refine Ja ?_ | refine Jb ?_ | refine Jc ?_ | refine Jd ?_ | refine Je ?_ | refine Jf ?_ | refine Jg ?_ | refine Jh ?_ ?_ | refine Ji ?_ ?_ | refine Jj ?_ ?_ | refine run_nil ?_ | refine sd ?_ | refine sdl ?_ | refine sdm (n := 1) ?_ | refine sdm ?_ | refine sdb ?_ | refine Jk ?_ | refine Jl ?_ | refine Jm ?_ | refine Jn ?_ ?_ | refine Jo ?_ ?_ | refine Jp ?_ ?_ | refine rund_nil ?_ | refine Jz ?_ | refine Jw ?_ | refine J0 (id := 14) [0,1,3,0,8,24,63,127,255,511] 6 ?_ | refine aw_block ?_ | refine Jq ?_ | refine Jr ?_ | refine Js ?_ | refine Jt ?_ | refine Ju ?_ ?_ | refine Jv ?_ ?_ | refine Jy ?_ | refine aw_exit ?_ | refine aw_ret ?_ | refine pp_ret ?_ | refine pp_normal ?_
      all_goals first | (refine pmw_ret _ (renumA [0]) ?_; exact Wk.tupleL (.cons (Wk.aggL (.cons (.refl _) (.cons (.refl _) (.cons (.refl _) (.cons (.refl _) (.cons (.refl _) (.cons (.refl _) (.cons .nil .nil)))))))) (.cons (.refl _) .nil))) | (exfalso; omega) | (exfalso; simp_all; done)
  · skip
    obtain ⟨v, a5, e5, h5⟩ : ∃ x y z, unsR d a4 e4 8 = (x, y, z) := ⟨_, _, _, rfl⟩
    obtain ⟨f, a6, e6, h6⟩ : ∃ x y z, unsR d a5 e5 27 = (x, y, z) := ⟨_, _, _, rfl⟩
    obtain ⟨u, a7, e7, h7⟩ : ∃ x y z, unsR d a6 e6 27 = (x, y, z) := ⟨_, _, _, rfl⟩
    obtain ⟨p, a8, e8, h8⟩ : ∃ x y z, unsR d a7 e7 4 = (x, y, z) := ⟨_, _, _, rfl⟩
    have l5 := unsR_le h5 l4 (by decide)
    have l6 := unsR_le h6 l5 (by decide)
    have l7 := unsR_le h7 l6 (by decide)
    have l8 := unsR_le h8 l7 (by decide)
    have hp := unsR_rng h8 (by decide)
    rw [show ((2 : Int) ^ (4 : Int).toNat) = 16 from rfl] at hp
    obtain ⟨N, hN⟩ : ∃ N : Nat, p + 1 = N := ⟨(p + 1).toNat, by omega⟩
    obtain ⟨C, a9, e9, h9⟩ : ∃ x y z, chR d a8 e8 N = (x, y, z) := ⟨_, _, _, rfl⟩
    have l9 := chR_le h9 l8
    have hCl := chR_len h9
    have hread : rdO d = ((root, op, run, v, f, u, C), a9, e9) := by
      unfold rdO u_ f_ t_
      dsimp only
      rw [h1]; dsimp only
      rw [h2]; dsimp only
      rw [h3]; dsimp only
      rw [h4]; dsimp only
      rw [if_pos rfl]
      unfold lsH u_
      dsimp only
      rw [h5]; dsimp only
      rw [h6]; dsimp only
      rw [h7]; dsimp only
      rw [h8]; dsimp only
      rw [show (p + 1).toNat = N by omega, h9]
    obtain ⟨d5, b5, r5⟩ := rr_ex2 d a5 e5
    obtain ⟨d6, b6, r6⟩ := rr_ex2 d a6 e6
    obtain ⟨d7, b7, r7⟩ := rr_ex2 d a7 e7
    obtain ⟨d8, b8, r8⟩ := rr_ex2 d a8 e8
    obtain ⟨d9, b9, r9⟩ := rr_ex2 d a9 e9
    have H5 := ac_runsR 8 e4 e5 v a4 a5 d d4 d5 b4 b5 h5 r4 r5 l4 (by omega) (by decide)
    have H6 := ac_runsR 27 e5 e6 f a5 a6 d d5 d6 b5 b6 h6 r5 r6 l5 (by omega) (by decide)
    have H7 := ac_runsR 27 e6 e7 u a6 a7 d d6 d7 b6 b7 h7 r6 r7 l6 (by omega) (by decide)
    have H7' := ac_runsR 4 e7 e8 p a7 a8 d d7 d8 b7 b8 h8 r7 r8 l7 (by omega) (by decide)
    have HN := ac_empty v f u N false (decide_eq_false (by omega))
    obtain ⟨z, hz⟩ : ∃ z, closeR d a9 e9 = z := ⟨_, rfl⟩
    obtain ⟨y, hy⟩ : ∃ y, chkO root run v f u C = y := ⟨_, rfl⟩
    have H9 := ac_rocheck root op run v f u C N hCl (by omega) y hy
    by_cases hz0 : z = 0
    · subst hz0
      by_cases hy0 : y = 0
      · subst hy0
        rw [dec_good hread hz hy] at hres
        obtain ⟨rfl, rfl⟩ := Prod.mk.inj hres.symm
        obtain rfl : n = N := hn.symm.trans hCl
        clear hread h1 h2 h3 h4 h5 h6 h7 h8 hy hres l1 l2 l3 l4 l5 l6 l7 hn
        dsimp only
        refine acalls_of_aw Tryz.func118 rfl rfl ?_
        refine aw_ghost 1 rfl ?_
        repeat' first | intro h1 | refine st ?_ | refine stMW [] H0 ?_ | refine stMW [2] H1 ?_ | refine stMW [2] H2 ?_ | refine stMW [2] H3 ?_ | refine stMW [2] H4 ?_ | refine stMW [2] H5 ?_ | refine stMW [2] H6 ?_ | refine stMW [2] H7 ?_ | refine stMW [2] H7' ?_ | refine stm ?_ | refine Ja ?_ | refine Jb ?_ | refine Jc ?_ | refine Jd ?_ | refine Je ?_ | refine Jf ?_ | refine Jg ?_ | refine Jh ?_ ?_ | refine Ji ?_ ?_ | refine Jj ?_ ?_ | refine run_nil ?_ | refine sd ?_ | refine sdl ?_ | refine sdm (n := 1) ?_ | refine sdm ?_ | refine sdb ?_ | refine Jk ?_ | refine Jl ?_ | refine Jm ?_ | refine Jn ?_ ?_ | refine Jo ?_ ?_ | refine Jp ?_ ?_ | refine rund_nil ?_ | refine Jz ?_ | refine Jw ?_ | refine J0 (id := 14) [0,1,3,0,8,24,63,127,255,511] 6 ?_ | refine aw_block ?_ | refine Jq ?_ | refine Jr ?_ | refine Js ?_ | refine Jt ?_ | refine Ju ?_ ?_ | refine Jv ?_ ?_ | refine Jy ?_ | refine aw_exit ?_ | refine aw_ret ?_ | refine pp_ret ?_ | refine pp_normal ?_
        clear H0 H1 H2 H3 H4 H5 H6 H7 H7'
        refine aw_loopg
          (S := fun y : Cg => [(2, .pointer (some ⟨1, 0, none⟩)), (4, .pointer (some ⟨2, 0, none⟩)), (5, .pointer (some ⟨3, 0, none⟩)), (6, .bool true), (7, .int .i64 (1 + p)), (8, .int .i64 y.i)])
          (B := fun y : Cg => [some ⟨List.map (Value.int .i64) y.L, true, 1⟩, some ⟨[.int .i64 0, .bool false, .string .empty, .int .i64 0, .int .i64 0, .int .i64 0, .slice none 0 0], true, 1⟩, some ⟨[.string y.d2, .int .i64 y.a2, .int .i64 y.e], true, 1⟩, some ⟨[.int .i64 root, .bool op, .string run, .int .i64 v, .int .i64 f, .int .i64 u, .slice (some ⟨0, 0, none⟩) y.i y.i], true, 1⟩])
          (R := fun y : Cg => y.i ≤ n ∧ chR d a8 e8 y.i = (y.L, y.a, y.e) ∧ y.L.length = y.i ∧ y.a ≤ 8 * d.size ∧ RR d y.a y.e y.d2 y.a2)
          (μ := fun y : Cg => n - y.i) ⟨0, [], a8, e8, d8, b8⟩ (fitsD [0, 1, 2, 3]) ⟨Nat.zero_le _, rfl, rfl, l8, r8⟩ ?_
        rintro ⟨i, Li, ai, ei, dd, bb⟩ ⟨g1, g2, g3, g4, g5⟩
        dsimp only at *
        by_cases hi : i < n
        · obtain ⟨v1, aj, ej, hj⟩ : ∃ v z e1, unsR d ai ei 4 = (v, z, e1) := ⟨_, _, _, rfl⟩
          have lj := unsR_le hj g4 (by decide)
          have hn' := chR_succ g2 hj
          obtain ⟨dj, bj, rj⟩ := rr_ex2 d aj ej
          have HJ := ac_runsR 4 ei ej v1 ai aj d dd dj bb bj hj g5 rj g4 (by omega) (by decide)
          repeat' first | intro h1 | refine Own.sob (n := 1) (h := ok_append (cs := List.map (Value.int .i64) (Li ++ [v1])) (olds := List.map (Value.int .i64) Li) rfl rfl rfl rfl rfl rfl (Src.slc rfl Ty.eq rfl (Nat.le_of_ble_eq_true rfl) rfl rfl rfl) (by simp; omega) (take_full (by simp; omega)) (by rw [List.map_append]; rfl) (by omega) (by (repeat constructor))) ?_ | refine st ?_ | refine Own.soMW [2] HJ ?_ | refine stm ?_ | refine Ja ?_ | refine Jb ?_ | refine Jc ?_ | refine Jd ?_ | refine Je ?_ | refine Jf ?_ | refine Jg ?_ | refine Jh ?_ ?_ | refine Ji ?_ ?_ | refine Jj ?_ ?_ | refine run_nil ?_ | refine Own.so ?_ | refine Own.sol ?_ | refine Own.som (n := 1) ?_ | refine Own.som ?_ | refine Own.sow ?_ | refine Own.sob ?_ | refine Own.runo_want rfl rfl ?_ | refine Own.runo_unwant rfl rfl ?_ | refine Own.runo_undef rfl rfl ?_ | refine Own.runo_guard1 rfl rfl (fun h1 => ?_) (fun h1 => ?_) | refine Own.runo_guard0 rfl rfl (fun h1 => ?_) (fun h1 => ?_) | refine Own.runo_guard rfl rfl (fun h1 => ?_) (fun h1 => ?_) | refine Own.runo_nil ?_ | refine sd ?_ | refine sdl ?_ | refine sdm (n := 1) ?_ | refine sdm ?_ | refine sdb ?_ | refine Jk ?_ | refine Jl ?_ | refine Jm ?_ | refine Jn ?_ ?_ | refine Jo ?_ ?_ | refine Jp ?_ ?_ | refine rund_nil ?_ | refine Jz ?_ | refine Jw ?_ | refine aw_region_oC (id := 14) [0, 1, 3, 0, 8, 24, 63, 127, 255, 511] 6 [[], [], [], [], [2]] (by (repeat constructor)) (by kernel_rfl) (by kernel_rfl) (by kernel_rfl) (by rfl) (by rfl) ?_ | refine aw_block ?_ | refine Jq ?_ | refine Jr ?_ | refine Js ?_ | refine Jt ?_ | refine Ju ?_ ?_ | refine Jv ?_ ?_ | refine Jy ?_ | refine aw_exit ?_ | refine aw_ret ?_ | refine pp_ret ?_ | refine pp_normal ?_
          all_goals first | exact Exists.intro ⟨i + 1, Li ++ [v1], aj, ej, dj, bj⟩ ⟨fitsD [5, 1, 2, 3], ⟨hi, hn', by rw [List.length_append, g3]; rfl, lj, rj⟩, by dsimp only; omega⟩ | (exfalso; omega)
        · obtain rfl : i = n := by omega
          rw [g2] at h9
          simp only [Prod.mk.injEq] at h9
          obtain ⟨rfl, rfl, rfl⟩ := h9
          have H8 := ac_rcloseR ei _ ai d dd bb hz g5 g4 (by omega)
          skip
          repeat' first | intro h1 | refine st ?_ | refine stRW [2] H8 ?_ | refine stRW [0] H9 ?_ | refine stRW [0] HN ?_ | refine stm ?_ | refine Ja ?_ | refine Jb ?_ | refine Jc ?_ | refine Jd ?_ | refine Je ?_ | refine Jf ?_ | refine Jg ?_ | refine Jh ?_ ?_ | refine Ji ?_ ?_ | refine Jj ?_ ?_ | refine run_nil ?_ | refine sd ?_ | refine sdl ?_ | refine sdm (n := 1) ?_ | refine sdm ?_ | refine sdb ?_ | refine Jk ?_ | refine Jl ?_ | refine Jm ?_ | refine Jn ?_ ?_ | refine Jo ?_ ?_ | refine Jp ?_ ?_ | refine rund_nil ?_ | refine Jz ?_ | refine Jw ?_ | refine J0 (id := 14) [0,1,3,0,8,24,63,127,255,511] 6 ?_ | refine aw_block ?_ | refine Jq ?_ | refine Jr ?_ | refine Js ?_ | refine Jt ?_ | refine Ju ?_ ?_ | refine Jv ?_ ?_ | refine Jy ?_ | refine aw_exit ?_ | refine aw_ret ?_ | refine pp_ret ?_ | refine pp_normal ?_
          all_goals first | exact pm_ret _ (renumD [0]) rfl | (exfalso; omega) | (exfalso; simp_all; done)
      · rw [dec_bad2 hread hz (fun h => hy0 (hy.symm.trans h))] at hres
        obtain ⟨rfl, rfl⟩ := Prod.mk.inj hres.symm
        obtain rfl : n = 0 := hn.symm
        clear hread h1 h2 h3 h4 h5 h6 h7 h8 hy hres l1 l2 l3 l4 l5 l6 l7 hn
        refine acalls_of_aw Tryz.func118 rfl rfl ?_
        refine aw_ghost 1 rfl ?_
        repeat' first | intro h1 | refine st ?_ | refine stMW [] H0 ?_ | refine stMW [2] H1 ?_ | refine stMW [2] H2 ?_ | refine stMW [2] H3 ?_ | refine stMW [2] H4 ?_ | refine stMW [2] H5 ?_ | refine stMW [2] H6 ?_ | refine stMW [2] H7 ?_ | refine stMW [2] H7' ?_ | refine stm ?_ | refine Ja ?_ | refine Jb ?_ | refine Jc ?_ | refine Jd ?_ | refine Je ?_ | refine Jf ?_ | refine Jg ?_ | refine Jh ?_ ?_ | refine Ji ?_ ?_ | refine Jj ?_ ?_ | refine run_nil ?_ | refine sd ?_ | refine sdl ?_ | refine sdm (n := 1) ?_ | refine sdm ?_ | refine sdb ?_ | refine Jk ?_ | refine Jl ?_ | refine Jm ?_ | refine Jn ?_ ?_ | refine Jo ?_ ?_ | refine Jp ?_ ?_ | refine rund_nil ?_ | refine Jz ?_ | refine Jw ?_ | refine J0 (id := 14) [0,1,3,0,8,24,63,127,255,511] 6 ?_ | refine aw_block ?_ | refine Jq ?_ | refine Jr ?_ | refine Js ?_ | refine Jt ?_ | refine Ju ?_ ?_ | refine Jv ?_ ?_ | refine Jy ?_ | refine aw_exit ?_ | refine aw_ret ?_ | refine pp_ret ?_ | refine pp_normal ?_
        clear H0 H1 H2 H3 H4 H5 H6 H7 H7'
        refine aw_loopg
          (S := fun y : Cg => [(2, .pointer (some ⟨1, 0, none⟩)), (4, .pointer (some ⟨2, 0, none⟩)), (5, .pointer (some ⟨3, 0, none⟩)), (6, .bool true), (7, .int .i64 (1 + p)), (8, .int .i64 y.i)])
          (B := fun y : Cg => [some ⟨List.map (Value.int .i64) y.L, true, 1⟩, some ⟨[.int .i64 0, .bool false, .string .empty, .int .i64 0, .int .i64 0, .int .i64 0, .slice none 0 0], true, 1⟩, some ⟨[.string y.d2, .int .i64 y.a2, .int .i64 y.e], true, 1⟩, some ⟨[.int .i64 root, .bool op, .string run, .int .i64 v, .int .i64 f, .int .i64 u, .slice (some ⟨0, 0, none⟩) y.i y.i], true, 1⟩])
          (R := fun y : Cg => y.i ≤ N ∧ chR d a8 e8 y.i = (y.L, y.a, y.e) ∧ y.L.length = y.i ∧ y.a ≤ 8 * d.size ∧ RR d y.a y.e y.d2 y.a2)
          (μ := fun y : Cg => N - y.i) ⟨0, [], a8, e8, d8, b8⟩ (fitsD [0, 1, 2, 3]) ⟨Nat.zero_le _, rfl, rfl, l8, r8⟩ ?_
        rintro ⟨i, Li, ai, ei, dd, bb⟩ ⟨g1, g2, g3, g4, g5⟩
        dsimp only at *
        by_cases hi : i < N
        · obtain ⟨v1, aj, ej, hj⟩ : ∃ v z e1, unsR d ai ei 4 = (v, z, e1) := ⟨_, _, _, rfl⟩
          have lj := unsR_le hj g4 (by decide)
          have hn' := chR_succ g2 hj
          obtain ⟨dj, bj, rj⟩ := rr_ex2 d aj ej
          have HJ := ac_runsR 4 ei ej v1 ai aj d dd dj bb bj hj g5 rj g4 (by omega) (by decide)
          repeat' first | intro h1 | refine Own.sob (n := 1) (h := ok_append (cs := List.map (Value.int .i64) (Li ++ [v1])) (olds := List.map (Value.int .i64) Li) rfl rfl rfl rfl rfl rfl (Src.slc rfl Ty.eq rfl (Nat.le_of_ble_eq_true rfl) rfl rfl rfl) (by simp; omega) (take_full (by simp; omega)) (by rw [List.map_append]; rfl) (by omega) (by (repeat constructor))) ?_ | refine st ?_ | refine Own.soMW [2] HJ ?_ | refine stm ?_ | refine Ja ?_ | refine Jb ?_ | refine Jc ?_ | refine Jd ?_ | refine Je ?_ | refine Jf ?_ | refine Jg ?_ | refine Jh ?_ ?_ | refine Ji ?_ ?_ | refine Jj ?_ ?_ | refine run_nil ?_ | refine Own.so ?_ | refine Own.sol ?_ | refine Own.som (n := 1) ?_ | refine Own.som ?_ | refine Own.sow ?_ | refine Own.sob ?_ | refine Own.runo_want rfl rfl ?_ | refine Own.runo_unwant rfl rfl ?_ | refine Own.runo_undef rfl rfl ?_ | refine Own.runo_guard1 rfl rfl (fun h1 => ?_) (fun h1 => ?_) | refine Own.runo_guard0 rfl rfl (fun h1 => ?_) (fun h1 => ?_) | refine Own.runo_guard rfl rfl (fun h1 => ?_) (fun h1 => ?_) | refine Own.runo_nil ?_ | refine sd ?_ | refine sdl ?_ | refine sdm (n := 1) ?_ | refine sdm ?_ | refine sdb ?_ | refine Jk ?_ | refine Jl ?_ | refine Jm ?_ | refine Jn ?_ ?_ | refine Jo ?_ ?_ | refine Jp ?_ ?_ | refine rund_nil ?_ | refine Jz ?_ | refine Jw ?_ | refine aw_region_oC (id := 14) [0, 1, 3, 0, 8, 24, 63, 127, 255, 511] 6 [[], [], [], [], [2]] (by (repeat constructor)) (by kernel_rfl) (by kernel_rfl) (by kernel_rfl) (by rfl) (by rfl) ?_ | refine aw_block ?_ | refine Jq ?_ | refine Jr ?_ | refine Js ?_ | refine Jt ?_ | refine Ju ?_ ?_ | refine Jv ?_ ?_ | refine Jy ?_ | refine aw_exit ?_ | refine aw_ret ?_ | refine pp_ret ?_ | refine pp_normal ?_
          all_goals first | exact Exists.intro ⟨i + 1, Li ++ [v1], aj, ej, dj, bj⟩ ⟨fitsD [5, 1, 2, 3], ⟨hi, hn', by rw [List.length_append, g3]; rfl, lj, rj⟩, by dsimp only; omega⟩ | (exfalso; omega)
        · obtain rfl : i = N := by omega
          rw [g2] at h9
          simp only [Prod.mk.injEq] at h9
          obtain ⟨rfl, rfl, rfl⟩ := h9
          have H8 := ac_rcloseR ei _ ai d dd bb hz g5 g4 (by omega)
          refine aw_ghost 1 rfl ?_
          repeat' first | intro h1 | refine st ?_ | refine stRW [2] H8 ?_ | refine stRW [0] H9 ?_ | refine stRW [0] HN ?_ | refine stm ?_ | refine Ja ?_ | refine Jb ?_ | refine Jc ?_ | refine Jd ?_ | refine Je ?_ | refine Jf ?_ | refine Jg ?_ | refine Jh ?_ ?_ | refine Ji ?_ ?_ | refine Jj ?_ ?_ | refine run_nil ?_ | refine sd ?_ | refine sdl ?_ | refine sdm (n := 1) ?_ | refine sdm ?_ | refine sdb ?_ | refine Jk ?_ | refine Jl ?_ | refine Jm ?_ | refine Jn ?_ ?_ | refine Jo ?_ ?_ | refine Jp ?_ ?_ | refine rund_nil ?_ | refine Jz ?_ | refine Jw ?_ | refine J0 (id := 14) [0,1,3,0,8,24,63,127,255,511] 6 ?_ | refine aw_block ?_ | refine Jq ?_ | refine Jr ?_ | refine Js ?_ | refine Jt ?_ | refine Ju ?_ ?_ | refine Jv ?_ ?_ | refine Jy ?_ | refine aw_exit ?_ | refine aw_ret ?_ | refine pp_ret ?_ | refine pp_normal ?_
          all_goals first | (refine pmw_ret _ (renumA [4]) ?_; exact Wk.tupleL (.cons (Wk.aggL (.cons (.refl _) (.cons (.refl _) (.cons (.refl _) (.cons (.refl _) (.cons (.refl _) (.cons (.refl _) (.cons .nil .nil)))))))) (.cons (.refl _) .nil))) | (exfalso; omega) | (exfalso; simp_all; done)
    · rw [dec_bad1 hread (by rw [hz]; exact hz0)] at hres
      obtain ⟨rfl, rfl⟩ := Prod.mk.inj hres.symm
      obtain rfl : n = 0 := hn.symm
      clear hread h1 h2 h3 h4 h5 h6 h7 h8 hy hres l1 l2 l3 l4 l5 l6 l7 hn
      refine acalls_of_aw Tryz.func118 rfl rfl ?_
      refine aw_ghost 1 rfl ?_
      repeat' first | intro h1 | refine st ?_ | refine stMW [] H0 ?_ | refine stMW [2] H1 ?_ | refine stMW [2] H2 ?_ | refine stMW [2] H3 ?_ | refine stMW [2] H4 ?_ | refine stMW [2] H5 ?_ | refine stMW [2] H6 ?_ | refine stMW [2] H7 ?_ | refine stMW [2] H7' ?_ | refine stm ?_ | refine Ja ?_ | refine Jb ?_ | refine Jc ?_ | refine Jd ?_ | refine Je ?_ | refine Jf ?_ | refine Jg ?_ | refine Jh ?_ ?_ | refine Ji ?_ ?_ | refine Jj ?_ ?_ | refine run_nil ?_ | refine sd ?_ | refine sdl ?_ | refine sdm (n := 1) ?_ | refine sdm ?_ | refine sdb ?_ | refine Jk ?_ | refine Jl ?_ | refine Jm ?_ | refine Jn ?_ ?_ | refine Jo ?_ ?_ | refine Jp ?_ ?_ | refine rund_nil ?_ | refine Jz ?_ | refine Jw ?_ | refine J0 (id := 14) [0,1,3,0,8,24,63,127,255,511] 6 ?_ | refine aw_block ?_ | refine Jq ?_ | refine Jr ?_ | refine Js ?_ | refine Jt ?_ | refine Ju ?_ ?_ | refine Jv ?_ ?_ | refine Jy ?_ | refine aw_exit ?_ | refine aw_ret ?_ | refine pp_ret ?_ | refine pp_normal ?_
      clear H0 H1 H2 H3 H4 H5 H6 H7 H7'
      refine aw_loopg
        (S := fun y : Cg => [(2, .pointer (some ⟨1, 0, none⟩)), (4, .pointer (some ⟨2, 0, none⟩)), (5, .pointer (some ⟨3, 0, none⟩)), (6, .bool true), (7, .int .i64 (1 + p)), (8, .int .i64 y.i)])
        (B := fun y : Cg => [some ⟨List.map (Value.int .i64) y.L, true, 1⟩, some ⟨[.int .i64 0, .bool false, .string .empty, .int .i64 0, .int .i64 0, .int .i64 0, .slice none 0 0], true, 1⟩, some ⟨[.string y.d2, .int .i64 y.a2, .int .i64 y.e], true, 1⟩, some ⟨[.int .i64 root, .bool op, .string run, .int .i64 v, .int .i64 f, .int .i64 u, .slice (some ⟨0, 0, none⟩) y.i y.i], true, 1⟩])
        (R := fun y : Cg => y.i ≤ N ∧ chR d a8 e8 y.i = (y.L, y.a, y.e) ∧ y.L.length = y.i ∧ y.a ≤ 8 * d.size ∧ RR d y.a y.e y.d2 y.a2)
        (μ := fun y : Cg => N - y.i) ⟨0, [], a8, e8, d8, b8⟩ (fitsD [0, 1, 2, 3]) ⟨Nat.zero_le _, rfl, rfl, l8, r8⟩ ?_
      rintro ⟨i, Li, ai, ei, dd, bb⟩ ⟨g1, g2, g3, g4, g5⟩
      dsimp only at *
      by_cases hi : i < N
      · obtain ⟨v1, aj, ej, hj⟩ : ∃ v z e1, unsR d ai ei 4 = (v, z, e1) := ⟨_, _, _, rfl⟩
        have lj := unsR_le hj g4 (by decide)
        have hn' := chR_succ g2 hj
        obtain ⟨dj, bj, rj⟩ := rr_ex2 d aj ej
        have HJ := ac_runsR 4 ei ej v1 ai aj d dd dj bb bj hj g5 rj g4 (by omega) (by decide)
        repeat' first | intro h1 | refine Own.sob (n := 1) (h := ok_append (cs := List.map (Value.int .i64) (Li ++ [v1])) (olds := List.map (Value.int .i64) Li) rfl rfl rfl rfl rfl rfl (Src.slc rfl Ty.eq rfl (Nat.le_of_ble_eq_true rfl) rfl rfl rfl) (by simp; omega) (take_full (by simp; omega)) (by rw [List.map_append]; rfl) (by omega) (by (repeat constructor))) ?_ | refine st ?_ | refine Own.soMW [2] HJ ?_ | refine stm ?_ | refine Ja ?_ | refine Jb ?_ | refine Jc ?_ | refine Jd ?_ | refine Je ?_ | refine Jf ?_ | refine Jg ?_ | refine Jh ?_ ?_ | refine Ji ?_ ?_ | refine Jj ?_ ?_ | refine run_nil ?_ | refine Own.so ?_ | refine Own.sol ?_ | refine Own.som (n := 1) ?_ | refine Own.som ?_ | refine Own.sow ?_ | refine Own.sob ?_ | refine Own.runo_want rfl rfl ?_ | refine Own.runo_unwant rfl rfl ?_ | refine Own.runo_undef rfl rfl ?_ | refine Own.runo_guard1 rfl rfl (fun h1 => ?_) (fun h1 => ?_) | refine Own.runo_guard0 rfl rfl (fun h1 => ?_) (fun h1 => ?_) | refine Own.runo_guard rfl rfl (fun h1 => ?_) (fun h1 => ?_) | refine Own.runo_nil ?_ | refine sd ?_ | refine sdl ?_ | refine sdm (n := 1) ?_ | refine sdm ?_ | refine sdb ?_ | refine Jk ?_ | refine Jl ?_ | refine Jm ?_ | refine Jn ?_ ?_ | refine Jo ?_ ?_ | refine Jp ?_ ?_ | refine rund_nil ?_ | refine Jz ?_ | refine Jw ?_ | refine aw_region_oC (id := 14) [0, 1, 3, 0, 8, 24, 63, 127, 255, 511] 6 [[], [], [], [], [2]] (by (repeat constructor)) (by kernel_rfl) (by kernel_rfl) (by kernel_rfl) (by rfl) (by rfl) ?_ | refine aw_block ?_ | refine Jq ?_ | refine Jr ?_ | refine Js ?_ | refine Jt ?_ | refine Ju ?_ ?_ | refine Jv ?_ ?_ | refine Jy ?_ | refine aw_exit ?_ | refine aw_ret ?_ | refine pp_ret ?_ | refine pp_normal ?_
        all_goals first | exact Exists.intro ⟨i + 1, Li ++ [v1], aj, ej, dj, bj⟩ ⟨fitsD [5, 1, 2, 3], ⟨hi, hn', by rw [List.length_append, g3]; rfl, lj, rj⟩, by dsimp only; omega⟩ | (exfalso; omega)
      · obtain rfl : i = N := by omega
        rw [g2] at h9
        simp only [Prod.mk.injEq] at h9
        obtain ⟨rfl, rfl, rfl⟩ := h9
        have H8 := ac_rcloseR ei _ ai d dd bb hz g5 g4 (by omega)
        refine aw_ghost 1 rfl ?_
        repeat' first | intro h1 | refine st ?_ | refine stRW [2] H8 ?_ | refine stRW [0] H9 ?_ | refine stRW [0] HN ?_ | refine stm ?_ | refine Ja ?_ | refine Jb ?_ | refine Jc ?_ | refine Jd ?_ | refine Je ?_ | refine Jf ?_ | refine Jg ?_ | refine Jh ?_ ?_ | refine Ji ?_ ?_ | refine Jj ?_ ?_ | refine run_nil ?_ | refine sd ?_ | refine sdl ?_ | refine sdm (n := 1) ?_ | refine sdm ?_ | refine sdb ?_ | refine Jk ?_ | refine Jl ?_ | refine Jm ?_ | refine Jn ?_ ?_ | refine Jo ?_ ?_ | refine Jp ?_ ?_ | refine rund_nil ?_ | refine Jz ?_ | refine Jw ?_ | refine J0 (id := 14) [0,1,3,0,8,24,63,127,255,511] 6 ?_ | refine aw_block ?_ | refine Jq ?_ | refine Jr ?_ | refine Js ?_ | refine Jt ?_ | refine Ju ?_ ?_ | refine Jv ?_ ?_ | refine Jy ?_ | refine aw_exit ?_ | refine aw_ret ?_ | refine pp_ret ?_ | refine pp_normal ?_
        all_goals first | (refine pmw_ret _ (renumA [4]) ?_; exact Wk.tupleL (.cons (Wk.aggL (.cons (.refl _) (.cons (.refl _) (.cons (.refl _) (.cons (.refl _) (.cons (.refl _) (.cons (.refl _) (.cons .nil .nil)))))))) (.cons (.refl _) .nil))) | (exfalso; omega) | (exfalso; simp_all; done)
end Go.Proofs.YtdbcbclapipgdaaGreatDoor
