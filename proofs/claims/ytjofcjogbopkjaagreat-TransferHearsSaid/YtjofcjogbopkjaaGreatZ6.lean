/- Transfer, the reference: Hear of what changes nothing. Transfer, the reference: Hear of announcements. -/
import Derived.Test.YtjofcjogbopkjaaGreatVL
import Derived.Test.YtjofcjogbopkjaaGreatZ1
import Derived.Test.YtjofcjogbopkjaaGreatR5
import Derived.Test.YtjofcjogbopkjaaGreatV2h
import Derived.Test.YtjofcjogbopkjaaGreatK3
set_option linter.unusedVariables false
set_option linter.unusedSimpArgs false
namespace Go.Proofs.YtjofcjogbopkjaaGreat
open Go Av
set_option maxRecDepth 20000
set_option maxHeartbeats 16000000 in
/-- Hear of what changes nothing. -/
theorem ac_rHearK (s : Sto) (n p : Nat) (hn : s.L.length = n) (hp : s.P.length = p) (hb : n ≤ 1000000 ∧ p ≤ 1000000) (hbits : s.bits < 18446744073709551616) (hd : s.data.size ≤ 100000) (hc : chS s = true) (uk uv : Int) (ui : ByteArray) (up ut : Int) (ub : Nat) (ud : ByteArray) (hu : valU uk uv ui up ut ub ud = true) (h1 : uk ≠ 1) (h : ¬ (uv = s.ver ∧ ui = s.id) ∨ uk = 2 ∨ (uk = 3 ∧ s.kn = true) ∨ (uk = 4 ∧ s.kn = false)) : ACalls Tryz.prog 10 [.agg #[.int .i64 s.ver, .string s.id, .bool s.kn, .int .i64 s.mv, .int .i64 s.ms, .int .i64 s.mg, .int .i64 s.mq, .slice (some ⟨0, 0, none⟩) n n, .string s.data, .int .u64 s.bits, .slice (some ⟨1, 0, none⟩) p p], .agg #[.int .i64 uk, .int .i64 uv, .string ui, .int .i64 up, .int .i64 ut, .int .u64 ub, .string ud]] [some ⟨List.map Value.string s.L, false, 1⟩, some ⟨List.map Value.string s.P, false, 1⟩] (.tuple #[.agg #[.int .i64 s.ver, .string s.id, .bool s.kn, .int .i64 s.mv, .int .i64 s.ms, .int .i64 s.mg, .int .i64 s.mq, .slice (some ⟨0, 0, none⟩) n n, .string s.data, .int .u64 s.bits, .slice (some ⟨1, 0, none⟩) p p], .bool false, .int .i64 0]) [none, none] := by
  have H0 := ac_rCheck s n p hn hp hb hbits (by omega) true hc
  have H1 := ac_rValid uk uv ui up ut ub ud true hu
  obtain ⟨A, hA⟩ : ∃ A, anX s = A := ⟨_, rfl⟩
  obtain ⟨E, hE⟩ : ∃ E, anE s = E := ⟨_, rfl⟩
  have H2 := ac_rAnnX s n p hn hp hb hbits (by omega) A hA E hE
  obtain ⟨ak, av, ai, ap, at', ab, ad⟩ := A
  dsimp only at H2
  clear hA hE
  clear hc hu hbits
  obtain ⟨ver, id, kn, mv, ms, mg, mq, L, data, bits, P⟩ := s
  dsimp only at *
  by_cases hv : uv = ver
  case neg =>
    clear h
    refine acalls_of_aw Tryz.func10 rfl rfl ?_
    repeat' first | intro h1 | refine st ?_ | refine stRW [0, 1] H0 ?_ | refine stRW [0, 1] H2 ?_ | refine st_call (H1) ?_ | refine stm ?_ | refine Ja ?_ | refine Jb ?_ | refine Ji ?_ ?_ | refine run_nil ?_ | refine Jz ?_ | refine Jw ?_ | refine Jq ?_ | refine Jr ?_ | refine Js ?_ | refine Jt ?_ | refine Jy ?_ | refine aw_ret ?_
    all_goals first | (exfalso; omega) | exact pm_ret _ (renumD [0, 1]) rfl
  by_cases hi : ui = id
  case neg =>
    have hw : decide (ui = id) = false := decide_eq_false hi
    clear h hi
    refine acalls_of_aw Tryz.func10 rfl rfl ?_
    repeat' first | refine st (h := ok_str_neqD rfl rfl hw) ?_ | refine st ?_ | refine stRW [0, 1] H0 ?_ | refine stRW [0, 1] H2 ?_ | refine st_call (H1) ?_ | refine stm ?_ | refine Ja ?_ | refine Jf ?_ | refine run_nil ?_ | refine Jz ?_ | refine Jw ?_ | refine Jq ?_ | refine Jr ?_ | refine Jt ?_ | refine Jy ?_ | refine aw_ret ?_
    all_goals first | exact pm_ret _ (renumD [0, 1]) rfl
  have h := h.resolve_left (fun h => h ⟨hv, hi⟩)
  have hw : decide (ui = id) = true := decide_eq_true hi
  clear hi
  rcases h with h | ⟨h, hk⟩ | ⟨h, hk⟩
  · subst h
    refine acalls_of_aw Tryz.func10 rfl rfl ?_
    repeat' first | refine st (h := ok_str_neqD rfl rfl hw) ?_ | refine st ?_ | refine stRW [0, 1] H0 ?_ | refine stRW [0, 1] H2 ?_ | refine st_call (H1) ?_ | refine stm ?_ | refine Ja ?_ | refine Jb ?_ | refine Jf ?_ | refine run_nil ?_ | refine Jz ?_ | refine Jw ?_ | refine aw_block ?_ | refine Jr ?_ | refine Jy ?_ | refine aw_ret ?_
    all_goals first | exact pm_ret _ (renumD [0, 1]) rfl
  · subst h hk
    refine acalls_of_aw Tryz.func10 rfl rfl ?_
    repeat' first | refine st (h := ok_str_neqD rfl rfl hw) ?_ | refine st ?_ | refine stRW [0, 1] H0 ?_ | refine stRW [0, 1] H2 ?_ | refine st_call (H1) ?_ | refine stm ?_ | refine Ja ?_ | refine Jb ?_ | refine Jf ?_ | refine run_nil ?_ | refine Jz ?_ | refine Jw ?_ | refine aw_block ?_ | refine Jr ?_ | refine Jy ?_ | refine aw_ret ?_
    all_goals first | exact pm_ret _ (renumD [0, 1]) rfl
  · subst h hk
    refine acalls_of_aw Tryz.func10 rfl rfl ?_
    repeat' first | refine st (h := ok_str_neqD rfl rfl hw) ?_ | refine st ?_ | refine stRW [0, 1] H0 ?_ | refine stRW [0, 1] H2 ?_ | refine st_call (H1) ?_ | refine stm ?_ | refine Ja ?_ | refine Jb ?_ | refine Jf ?_ | refine run_nil ?_ | refine Jz ?_ | refine Jw ?_ | refine aw_block ?_ | refine Jr ?_ | refine Jy ?_ | refine aw_ret ?_
    all_goals first | exact pm_ret _ (renumD [0, 1]) rfl
end Go.Proofs.YtjofcjogbopkjaaGreat
namespace Go.Proofs.YtjofcjogbopkjaaGreat
open Go Av
set_option maxRecDepth 20000
set_option maxHeartbeats 16000000 in
/-- Hear of an announcement that is not newer. -/
theorem ac_rHearE (s : Sto) (n p : Nat) (hn : s.L.length = n) (hp : s.P.length = p) (hb : n ≤ 1000000 ∧ p ≤ 1000000) (hbits : s.bits < 18446744073709551616) (hd : s.data.size ≤ 100000) (hc : chS s = true) (uk uv : Int) (ui : ByteArray) (up ut : Int) (ub : Nat) (ud : ByteArray) (hu : valU uk uv ui up ut ub ud = true) (hk : uk = 1) (hv : ¬ s.ver < uv) (e : Bool) (he : decide (Upd.mk uk uv ui up ut ub ud = annU s) = e) : ACalls Tryz.prog 10 [.agg #[.int .i64 s.ver, .string s.id, .bool s.kn, .int .i64 s.mv, .int .i64 s.ms, .int .i64 s.mg, .int .i64 s.mq, .slice (some ⟨0, 0, none⟩) n n, .string s.data, .int .u64 s.bits, .slice (some ⟨1, 0, none⟩) p p], .agg #[.int .i64 uk, .int .i64 uv, .string ui, .int .i64 up, .int .i64 ut, .int .u64 ub, .string ud]] [some ⟨List.map Value.string s.L, false, 1⟩, some ⟨List.map Value.string s.P, false, 1⟩] (.tuple #[.agg #[.int .i64 s.ver, .string s.id, .bool s.kn, .int .i64 s.mv, .int .i64 s.ms, .int .i64 s.mg, .int .i64 s.mq, .slice (some ⟨0, 0, none⟩) n n, .string s.data, .int .u64 s.bits, .slice (some ⟨1, 0, none⟩) p p], .bool e, .int .i64 0]) [none, none] := by
  have H0 := ac_rCheck s n p hn hp hb hbits (by omega) true hc
  have H1 := ac_rValid uk uv ui up ut ub ud true hu
  have hv0 : s.ver ≠ 0 := by
    have := (val_kind hu).1
    omega
  obtain ⟨g, hg⟩ : ∃ g, (annU s).page = g := ⟨_, rfl⟩
  have H2 := ac_rAnnX s n p hn hp hb hbits (by omega) ⟨1, s.ver, s.id, g, 0, 0, ⟨#[]⟩⟩ (by unfold anX; rw [if_pos ⟨hc, hv0⟩, ← hg]; rfl) 0 (by unfold anE; rw [if_pos hc, if_neg hv0])
  dsimp only at H2
  have heq : decide (uv = s.ver ∧ ui = s.id ∧ up = g ∧ ut = 0 ∧ (ub : Int) = 0 ∧ ud = ⟨#[]⟩) = e := by
    rw [← he, ← hg, hk]
    refine decide_eq_decide.2 ?_
    unfold annU
    simp only [Upd.mk.injEq, true_and, and_true]
    constructor
    · rintro ⟨a1, a2, a3, a4, a5, a6⟩
      exact ⟨a1, a2, a3, a4, by omega, a6⟩
    · rintro ⟨a1, a2, a3, a4, a5, a6⟩
      exact ⟨a1, a2, a3, a4, by omega, a6⟩
  clear he hc hu hg hbits
  obtain ⟨ver, id, kn, mv, ms, mg, mq, L, data, bits, P⟩ := s
  dsimp only at *
  have he : decide ((1 : Int) = 1 ∧ uv = ver ∧ ui = id ∧ up = g ∧ ut = 0 ∧ (ub : Int) = 0 ∧ ud = ⟨#[]⟩ ∧ True) = e := by
    rw [← heq]
    exact decide_eq_decide.2 (by simp only [true_and, and_true])
  clear heq
  subst hk
  refine acalls_of_aw Tryz.func10 rfl rfl ?_
  repeat' first | refine Own.so (h := ok_agg_eqlD ((1 : Int) = 1 ∧ uv = ver ∧ ui = id ∧ up = g ∧ ut = 0 ∧ (ub : Int) = 0 ∧ ud = ⟨#[]⟩ ∧ True) rfl rfl (by ((repeat constructor); first | done | fail)) he) ?_ | refine st ?_ | refine stRW [0, 1] H0 ?_ | refine stRW [0, 1] H2 ?_ | refine st_call (H1) ?_ | refine stm ?_ | refine Ja ?_ | refine run_nil ?_ | refine Own.so ?_ | refine Own.sol ?_ | refine Own.sow ?_ | refine Own.runo_want rfl rfl ?_ | refine Own.runo_nil ?_ | refine Jz ?_ | refine Jw ?_ | refine aw_region_oC (id := 7) [0, 0, 2, 6, 14, 14, 62, 126, 15, 511, 1023] 9 [[], [], [], [], [], [], [], [], [4], [], []] (by (repeat constructor)) (by kernel_rfl) (by kernel_rfl) (by kernel_rfl) (by rfl) (by rfl) ?_ | refine Jq ?_ | refine Jr ?_ | refine Jt ?_ | refine Jy ?_ | refine aw_ret ?_
  all_goals first | exact pm_ret _ (renumD [0, 1]) rfl
set_option maxHeartbeats 16000000 in
/-- Hear of a newer version. -/
theorem ac_rHearN (s : Sto) (n p : Nat) (hn : s.L.length = n) (hp : s.P.length = p) (hb : n ≤ 1000000 ∧ p ≤ 1000000) (hbits : s.bits < 18446744073709551616) (hd : s.data.size ≤ 100000) (hc : chS s = true) (uk uv : Int) (ui : ByteArray) (up ut : Int) (ub : Nat) (ud : ByteArray) (hu : valU uk uv ui up ut ub ud = true) (hk : uk = 1) (hv : s.ver < uv) : ACalls Tryz.prog 10 [.agg #[.int .i64 s.ver, .string s.id, .bool s.kn, .int .i64 s.mv, .int .i64 s.ms, .int .i64 s.mg, .int .i64 s.mq, .slice (some ⟨0, 0, none⟩) n n, .string s.data, .int .u64 s.bits, .slice (some ⟨1, 0, none⟩) p p], .agg #[.int .i64 uk, .int .i64 uv, .string ui, .int .i64 up, .int .i64 ut, .int .u64 ub, .string ud]] [some ⟨List.map Value.string s.L, false, 1⟩, some ⟨List.map Value.string s.P, false, 1⟩] (.tuple #[.agg #[.int .i64 uv, .string ui, .bool false, .int .i64 0, .int .i64 0, .int .i64 0, .int .i64 0, .slice (some ⟨2, 0, none⟩) 0 0, .string ⟨#[]⟩, .int .u64 0, .slice (some ⟨3, 0, none⟩) 0 0], .bool false, .int .i64 0]) [none, none, some ⟨[], true, 1⟩, some ⟨[], true, 1⟩] := by
  have H0 := ac_rCheck s n p hn hp hb hbits (by omega) true hc
  have H1 := ac_rValid uk uv ui up ut ub ud true hu
  obtain ⟨A, hA⟩ : ∃ A, anX s = A := ⟨_, rfl⟩
  obtain ⟨E, hE⟩ : ∃ E, anE s = E := ⟨_, rfl⟩
  have H2 := ac_rAnnX s n p hn hp hb hbits (by omega) A hA E hE
  obtain ⟨ak, av, ai, ap, at', ab, ad⟩ := A
  dsimp only at H2
  clear hA hE
  clear hc hu hbits
  obtain ⟨ver, id, kn, mv, ms, mg, mq, L, data, bits, P⟩ := s
  dsimp only at *
  subst hk
  refine acalls_of_aw Tryz.func10 rfl rfl ?_
  refine aw_ghost 1 rfl ?_
  refine aw_ghost 1 rfl ?_
  repeat' first | refine st ?_ | refine stRW [0, 1] H0 ?_ | refine stRW [0, 1] H2 ?_ | refine st_call (H1) ?_ | refine stm ?_ | refine Ja ?_ | refine run_nil ?_ | refine Jz ?_ | refine Jw ?_ | refine Jq ?_ | refine Jr ?_ | refine Js ?_ | refine Jy ?_ | refine aw_ret ?_
  all_goals first | (refine pmw_ret _ (renumA [0, 1, 2, 3]) ?_; exact Wk.tupleL (.cons (Wk.aggL (.cons (.refl _) (.cons (.refl _) (.cons (.refl _) (.cons (.refl _) (.cons (.refl _) (.cons (.refl _) (.cons (.refl _) (.cons .nil (.cons (.refl _) (.cons (.refl _) (.cons .nil .nil)))))))))))) (.cons (.refl _) (.cons (.refl _) .nil))))
end Go.Proofs.YtjofcjogbopkjaaGreat
