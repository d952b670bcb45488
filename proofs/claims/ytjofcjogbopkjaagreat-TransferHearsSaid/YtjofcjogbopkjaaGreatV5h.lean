/- Transfer: Hear of a newer version. Transfer: Hear of an announcement that is not newer. Transfer: Hear of a packet. -/
import Derived.Test.YtjofcjogbopkjaaGreatVL
import Derived.Test.YtjofcjogbopkjaaGreatV2h
set_option linter.unusedVariables false
set_option linter.unusedSimpArgs false
namespace Go.Proofs.YtjofcjogbopkjaaGreat
open Go Av
set_option maxRecDepth 20000
set_option maxHeartbeats 16000000 in
theorem ac_HearN (s : Sto) (n p : Nat) (hn : s.L.length = n) (hp : s.P.length = p) (hb : n ≤ 1000000 ∧ p ≤ 1000000) (hbits : s.bits < 18446744073709551616) (hd : s.data.size ≤ 100000) (hc : chS s = true) (uk uv : Int) (ui : ByteArray) (up ut : Int) (ub : Nat) (ud : ByteArray) (hu : valU uk uv ui up ut ub ud = true) (hk : uk = 1) (hv : s.ver < uv) : ACalls Tryz.prog 9 [.agg #[.int .i64 s.ver, .string s.id, .bool s.kn, .int .i64 s.mv, .int .i64 s.ms, .int .i64 s.mg, .int .i64 s.mq, .slice (some ⟨0, 0, none⟩) n n, .string s.data, .int .u64 s.bits, .slice (some ⟨1, 0, none⟩) p p], .agg #[.int .i64 uk, .int .i64 uv, .string ui, .int .i64 up, .int .i64 ut, .int .u64 ub, .string ud]] [some ⟨List.map Value.string s.L, false, 1⟩, some ⟨List.map Value.string s.P, false, 1⟩] (.tuple #[.agg #[.int .i64 uv, .string ui, .bool false, .int .i64 0, .int .i64 0, .int .i64 0, .int .i64 0, .slice (some ⟨2, 0, none⟩) 0 0, .string ⟨#[]⟩, .int .u64 0, .slice (some ⟨3, 0, none⟩) 0 0], .bool false, .int .i64 0]) [none, none, some ⟨[], true, 1⟩, some ⟨[], true, 1⟩] := by
  have H0 := ac_check s n p hn hp hb hbits (by omega) _ hc
  have H1 := ac_valid uk uv ui up ut ub ud _ hu
  have H4 := ac_own s.mv s.ms s.mg s.mq s.L n hn hb.1
  have H5 := ac_cloneS s.P p hp hb.2
  have hkk : s.kn = true → (s.data.size : Int) = s.ms ∨ 1 ≤ s.mg := fun hk => by
    rcases chS_spec hc with h | ⟨_, _, h, _⟩
    · exact absurd (of_decide_eq_true h).2.2.1 (by rw [hk]; decide)
    · obtain ⟨_, _, _, _, k, _, _, _, _, _, _, h1, _⟩ := knB_spec hn hp (h hk)
      exact .inr h1
  obtain ⟨g, hg⟩ : ∃ g, (annU s).page = g := ⟨_, rfl⟩
  have H3 := ac_ann s n p hn hp hb (by omega) hkk g hg
  obtain ⟨z, hz⟩ : ∃ z, zeB s = z := ⟨_, rfl⟩
  have H2 := ac_zero s n p hn hp hb z hz
  clear hc hu hg hkk hz hbits
  obtain ⟨ver, id, kn, mv, ms, mg, mq, L, data, bits, P⟩ := s
  dsimp only at *
  have he : decide ((1 : Int) = 1 ∧ uv = ver ∧ ui = id ∧ up = g ∧ ut = 0 ∧ (ub : Int) = 0 ∧ ud = ⟨#[]⟩ ∧ True) = false := decide_eq_false fun h => by have := h.2.1; omega
  obtain ⟨w, hw⟩ : ∃ w, decide (ui = id) = w := ⟨_, rfl⟩
  subst hk
  cases z
  all_goals refine acalls_of_aw Tryz.func9 rfl rfl ?_
  all_goals refine aw_ghost 1 rfl ?_
  all_goals refine aw_ghost 1 rfl ?_
  repeat' first | refine sd (h := ok_agg_eqlD ((1 : Int) = 1 ∧ uv = ver ∧ ui = id ∧ up = g ∧ ut = 0 ∧ (ub : Int) = 0 ∧ ud = ⟨#[]⟩ ∧ True) rfl rfl (by ((repeat constructor); first | done | fail)) he) ?_ | refine st ?_ | refine stRW [0, 1] H0 ?_ | refine sdRW [0, 1] H2 ?_ | refine sdRW [0, 1] H3 ?_ | refine st_call (H1) ?_ | refine sdNR (r' := .agg #[.int .i64 mv, .int .i64 ms, .int .i64 mg, .int .i64 mq, .slice (some ⟨7, 0, none⟩) n n]) (N := [some ⟨List.map Value.string L, true, 1⟩]) [0] 1 H4 ?_ | refine sdNR (r' := .slice (some ⟨8, 0, none⟩) p p) (N := [some ⟨List.map Value.string P, true, 1⟩]) [1] 1 H5 ?_ | refine stm ?_ | refine Ja ?_ | refine Jb ?_ | refine Je ?_ | refine run_nil ?_ | refine sd ?_ | refine sdl ?_ | refine sdb ?_ | refine Jk ?_ | refine Jl ?_ | refine rund_nil ?_ | refine Jz ?_ | refine Jw ?_ | refine Jx (id := 3) [0,1,3,7,15,31,63,127,255,511,511,1535,4095,8191,16383] 15 ?_ | refine Jx (id := 4) [0,1,3,0,8,31,63,127,255,511] 7 ?_ | refine aw_block ?_ | refine Jr ?_ | refine Js ?_ | refine Jy ?_ | refine aw_ret ?_
  all_goals first | (refine pmw_ret _ (renumA [0, 1, 2, 3]) ?_; exact Wk.tupleL (.cons (Wk.aggL (.cons (.refl _) (.cons (.refl _) (.cons (.refl _) (.cons (.refl _) (.cons (.refl _) (.cons (.refl _) (.cons (.refl _) (.cons .nil (.cons (.refl _) (.cons (.refl _) (.cons .nil .nil)))))))))))) (.cons (.refl _) (.cons (.refl _) .nil))))
end Go.Proofs.YtjofcjogbopkjaaGreat
namespace Go.Proofs.YtjofcjogbopkjaaGreat
open Go Av
set_option maxRecDepth 20000
set_option maxHeartbeats 16000000 in
theorem ac_HearE (s : Sto) (n p : Nat) (hn : s.L.length = n) (hp : s.P.length = p) (hb : n ≤ 1000000 ∧ p ≤ 1000000) (hbits : s.bits < 18446744073709551616) (hd : s.data.size ≤ 100000) (hc : chS s = true) (uk uv : Int) (ui : ByteArray) (up ut : Int) (ub : Nat) (ud : ByteArray) (hu : valU uk uv ui up ut ub ud = true) (hk : uk = 1) (hv : ¬ s.ver < uv) (hz : zeB s = false) (e : Bool) (he : decide (Upd.mk uk uv ui up ut ub ud = annU s) = e) : ACalls Tryz.prog 9 [.agg #[.int .i64 s.ver, .string s.id, .bool s.kn, .int .i64 s.mv, .int .i64 s.ms, .int .i64 s.mg, .int .i64 s.mq, .slice (some ⟨0, 0, none⟩) n n, .string s.data, .int .u64 s.bits, .slice (some ⟨1, 0, none⟩) p p], .agg #[.int .i64 uk, .int .i64 uv, .string ui, .int .i64 up, .int .i64 ut, .int .u64 ub, .string ud]] [some ⟨List.map Value.string s.L, false, 1⟩, some ⟨List.map Value.string s.P, false, 1⟩] (.tuple #[.agg #[.int .i64 s.ver, .string s.id, .bool s.kn, .int .i64 s.mv, .int .i64 s.ms, .int .i64 s.mg, .int .i64 s.mq, .slice (some ⟨2, 0, none⟩) n n, .string s.data, .int .u64 s.bits, .slice (some ⟨3, 0, none⟩) p p], .bool e, .int .i64 0]) [none, none, some ⟨List.map Value.string s.L, true, 1⟩, some ⟨List.map Value.string s.P, true, 1⟩] := by
  have H0 := ac_check s n p hn hp hb hbits (by omega) _ hc
  have H1 := ac_valid uk uv ui up ut ub ud _ hu
  have H4 := ac_own s.mv s.ms s.mg s.mq s.L n hn hb.1
  have H5 := ac_cloneS s.P p hp hb.2
  have hkk : s.kn = true → (s.data.size : Int) = s.ms ∨ 1 ≤ s.mg := fun hk => by
    rcases chS_spec hc with h | ⟨_, _, h, _⟩
    · exact absurd (of_decide_eq_true h).2.2.1 (by rw [hk]; decide)
    · obtain ⟨_, _, _, _, k, _, _, _, _, _, _, h1, _⟩ := knB_spec hn hp (h hk)
      exact .inr h1
  obtain ⟨g, hg⟩ : ∃ g, (annU s).page = g := ⟨_, rfl⟩
  have H3 := ac_ann s n p hn hp hb (by omega) hkk g hg
  have H2 := ac_zero s n p hn hp hb _ hz
  have heq : decide (uv = s.ver ∧ ui = s.id ∧ up = g ∧ ut = 0 ∧ (ub : Int) = 0 ∧ ud = ⟨#[]⟩) = e := by
    rw [← he, ← hg, hk]
    refine decide_eq_decide.2 ?_
    unfold annU
    simp only [Upd.mk.injEq, true_and, and_true]
    constructor
    · rintro ⟨a1, a2, a3, a4, a5, a6⟩
      exact ⟨a1, a2, a3, a4, by omega, a6⟩
    · rintro ⟨a1, a2, a3, a4, a5, a6⟩
      exact ⟨a1, a2, a3, a4, by omega, a6⟩
  clear he hc hu hg hkk hz hbits
  obtain ⟨ver, id, kn, mv, ms, mg, mq, L, data, bits, P⟩ := s
  dsimp only at *
  have he : decide ((1 : Int) = 1 ∧ uv = ver ∧ ui = id ∧ up = g ∧ ut = 0 ∧ (ub : Int) = 0 ∧ ud = ⟨#[]⟩ ∧ True) = e := by
    rw [← heq]
    exact decide_eq_decide.2 (by simp only [true_and, and_true])
  clear heq
  obtain ⟨w, hw⟩ : ∃ w, decide (ui = id) = w := ⟨_, rfl⟩
  subst hk
  refine acalls_of_aw Tryz.func9 rfl rfl ?_
  repeat' first | intro h1 | refine sd (h := ok_agg_eqlD ((1 : Int) = 1 ∧ uv = ver ∧ ui = id ∧ up = g ∧ ut = 0 ∧ (ub : Int) = 0 ∧ ud = ⟨#[]⟩ ∧ True) rfl rfl (by ((repeat constructor); first | done | fail)) he) ?_ | refine st (h := ok_str_eqlD rfl rfl hw) ?_ | refine st ?_ | refine stRW [0, 1] H0 ?_ | refine sdRW [0, 1] H2 ?_ | refine sdRW [0, 1] H3 ?_ | refine st_call (H1) ?_ | refine sdNR (r' := .agg #[.int .i64 mv, .int .i64 ms, .int .i64 mg, .int .i64 mq, .slice (some ⟨5, 0, none⟩) n n]) (N := [some ⟨List.map Value.string L, true, 1⟩]) [0] 1 H4 ?_ | refine sdNR (r' := .slice (some ⟨6, 0, none⟩) p p) (N := [some ⟨List.map Value.string P, true, 1⟩]) [1] 1 H5 ?_ | refine stm ?_ | refine Ja ?_ | refine Jb ?_ | refine Jh ?_ ?_ | refine run_nil ?_ | refine sd ?_ | refine sdl ?_ | refine sdb ?_ | refine Jk ?_ | refine rund_nil ?_ | refine Jz ?_ | refine Jw ?_ | refine Jx (id := 3) [0,1,3,7,15,31,63,127,255,511,511,1535,4095,8191,16383] 15 ?_ | refine Jx (id := 4) [0,1,3,0,8,31,63,127,255,511] 7 ?_ | refine aw_block ?_ | refine Jr ?_ | refine Jt ?_ | refine Jy ?_ | refine aw_ret ?_
  all_goals first | exact pm_ret _ (renumD [0, 1, 5, 6]) rfl
end Go.Proofs.YtjofcjogbopkjaaGreat
namespace Go.Proofs.YtjofcjogbopkjaaGreat
open Go Av
set_option maxRecDepth 20000
set_option maxHeartbeats 16000000 in
theorem ac_HearP (s : Sto) (n p : Nat) (hn : s.L.length = n) (hp : s.P.length = p) (hb : n ≤ 1000000 ∧ p ≤ 1000000) (hbits : s.bits < 18446744073709551616) (hd : s.data.size ≤ 100000) (hc : chS s = true) (uk uv : Int) (ui : ByteArray) (up ut : Int) (ub : Nat) (ud : ByteArray) (hu : valU uk uv ui up ut ub ud = true) (hk : uk = 4) (hv : uv = s.ver) (hi : ui = s.id) (hkn : s.kn = true) (hcc : cpB s = false) (s' : Sto) (hs' : puS s ⟨uk, uv, ui, up, ut, ub, ud⟩ = s') (p' : Nat) (hp' : s'.P.length = p') : ACalls Tryz.prog 9 [.agg #[.int .i64 s.ver, .string s.id, .bool s.kn, .int .i64 s.mv, .int .i64 s.ms, .int .i64 s.mg, .int .i64 s.mq, .slice (some ⟨0, 0, none⟩) n n, .string s.data, .int .u64 s.bits, .slice (some ⟨1, 0, none⟩) p p], .agg #[.int .i64 uk, .int .i64 uv, .string ui, .int .i64 up, .int .i64 ut, .int .u64 ub, .string ud]] [some ⟨List.map Value.string s.L, false, 1⟩, some ⟨List.map Value.string s.P, false, 1⟩] (.tuple #[.agg #[.int .i64 s'.ver, .string s'.id, .bool s'.kn, .int .i64 s'.mv, .int .i64 s'.ms, .int .i64 s'.mg, .int .i64 s'.mq, .slice (some ⟨2, 0, none⟩) n n, .string s'.data, .int .u64 s'.bits, .slice (some ⟨3, 0, none⟩) p' p'], .bool false, .int .i64 0]) [none, none, some ⟨List.map Value.string s.L, true, 1⟩, some ⟨List.map Value.string s'.P, true, 1⟩] := by
  have H0 := ac_check s n p hn hp hb hbits (by omega) _ hc
  have H1 := ac_valid uk uv ui up ut ub ud _ hu
  have H4 := ac_own s.mv s.ms s.mg s.mq s.L n hn hb.1
  have H5 := ac_cloneS s.P p hp hb.2
  have H6 := ac_complete s n p hn hp hb _ hcc
  have hkb : knB s = true := by
    rcases chS_spec hc with h | ⟨_, _, h, _⟩
    · exact absurd (of_decide_eq_true h).2.2.1 (by rw [hkn]; decide)
    · exact h hkn
  obtain ⟨r1, r2, r3, r4, k, r5, r6, r7, r8, r9, r10, r11, r12, r13⟩ := knB_spec hn hp hkb
  have hne : (s.data.size : Int) ≠ s.ms := fun h => by
    unfold cpB at hcc
    rw [hkn, Bool.true_and] at hcc
    exact of_decide_eq_false hcc h
  have hkn2 : k < n := by
    rcases Nat.lt_or_ge k n with h | h
    · exact h
    · exact absurd (r8 (by omega)).1 hne
  have hut : (0 ≤ ut ∧ ut < 64) ∧ ud.size ≤ 96 := by
    unfold valU at hu
    rw [hk, if_neg (by decide), if_neg (by decide), if_neg (by decide), if_pos rfl, Bool.and_eq_true] at hu
    have := of_decide_eq_true hu.2
    omega
  have HP := ac_put s n p hn hp hb r1 r4 hd hbits k r5 hkn2 (r9 hkn2).2 uk uv ui up ut ub ud hut.1 hut.2 s' hs' p' hp'
  clear hc hu hcc hkb r1 r2 r3 r4 r5 r7 r8 r9 hs' hbits
  obtain ⟨ver, id, kn, mv, ms, mg, mq, L, data, bits, P⟩ := s
  dsimp only at *
  subst hk hv hi hkn
  refine acalls_of_aw Tryz.func9 rfl rfl ?_
  repeat' first | refine st (h := ok_str_eqlT rfl rfl) ?_ | refine st ?_ | refine stRW [0, 1] H0 ?_ | refine st_call (H1) ?_ | refine sdNR (r' := .agg #[.int .i64 mv, .int .i64 ms, .int .i64 mg, .int .i64 mq, .slice (some ⟨5, 0, none⟩) n n]) (N := [some ⟨List.map Value.string L, true, 1⟩]) [0] 1 H4 ?_ | refine sdNR (r' := .slice (some ⟨6, 0, none⟩) p p) (N := [some ⟨List.map Value.string P, true, 1⟩]) [1] 1 H5 ?_ | refine stRW [5, 6] H6 ?_ | refine stMW [5, 6, 2] HP ?_ | refine stm ?_ | refine Ja ?_ | refine Jb ?_ | refine Jd ?_ | refine run_nil ?_ | refine sd ?_ | refine sdl ?_ | refine sdb ?_ | refine Jl ?_ | refine rund_nil ?_ | refine Jz ?_ | refine Jw ?_ | refine Jx (id := 3) [0,1,3,7,15,31,63,127,255,511,511,1535,4095,8191,16383] 15 ?_ | refine Jx (id := 4) [0,1,3,0,8,31,63,127,255,511] 7 ?_ | refine aw_block ?_ | refine Jq ?_ | refine Jr ?_ | refine Jy ?_ | refine aw_ret ?_
  all_goals first | exact pm_ret _ (renumD [0, 1, 5, 7]) rfl
end Go.Proofs.YtjofcjogbopkjaaGreat
