/- Transfer: announcements, copies, the stores of images. Transfer: requests. Transfer: the laws' copies of stores. -/
import Derived.Test.YtjofcjogbopkjaaGreatVL
import Derived.Test.YtjofcjogbopkjaaGreatU4
import Derived.Test.YtjofcjogbopkjaaGreatT3
set_option linter.unusedVariables false
set_option linter.unusedSimpArgs false
namespace Go.Proofs.YtjofcjogbopkjaaGreat
open Go Av
set_option maxRecDepth 20000
theorem ac_ann (s : Sto) (n p : Nat) (hn : s.L.length = n) (hp : s.P.length = p) (hb : n ≤ 1000000 ∧ p ≤ 1000000) (hd : s.data.size ≤ 1000000) (hk : s.kn = true → (s.data.size : Int) = s.ms ∨ 1 ≤ s.mg) (g : Int) (hg : (annU s).page = g) : ACalls Tryz.prog 30 [.agg #[.int .i64 s.ver, .string s.id, .bool s.kn, .int .i64 s.mv, .int .i64 s.ms, .int .i64 s.mg, .int .i64 s.mq, .slice (some ⟨0, 0, none⟩) n n, .string s.data, .int .u64 s.bits, .slice (some ⟨1, 0, none⟩) p p]] [some ⟨List.map Value.string s.L, false, 1⟩, some ⟨List.map Value.string s.P, false, 1⟩] (.agg #[.int .i64 1, .int .i64 s.ver, .string s.id, .int .i64 g, .int .i64 0, .int .u64 0, .string ⟨#[]⟩]) [none, none] := by
  have HD := fun h => ac_done s n p hn hp hb h hd _ rfl _ rfl
  unfold annU at hg
  dsimp only at hg
  obtain ⟨ver, id, kn, mv, ms, mg, mq, L, data, bits, P⟩ := s
  dsimp only at *
  rw [hn] at hg
  cases kn
  · rw [if_neg (by decide)] at hg
    subst hg
    clear HD hk
    refine acalls_law Tryz.func30 rfl rfl rfl ?_
    repeat' first | refine st ?_ | refine stm ?_ | refine run_nil ?_ | refine Jz ?_ | refine Jw ?_ | refine Jr ?_ | refine Jy ?_ | refine aw_ret ?_ | refine pp_ret ?_
    all_goals first
      | rfl
      | (exfalso; omega)
      | (exfalso; simp only [Bool.not_eq_true', Bool.not_eq_false', decide_eq_true_eq, decide_eq_false_iff_not, Bool.not_false, Bool.not_true] at *; omega)
      | (exfalso; simp_all; first | done | omega)
  · rw [if_pos rfl] at hg
    have H := HD (hk rfl)
    rw [hg] at H
    clear HD hk hg
    generalize dnB ms mg data.size = q at H
    refine acalls_law Tryz.func30 rfl rfl rfl ?_
    repeat' first | refine st ?_ | refine stRW [0, 1] H ?_ | refine stm ?_ | refine run_nil ?_ | refine Jz ?_ | refine Jw ?_ | refine Jq ?_ | refine aw_ret ?_ | refine pp_ret ?_
    all_goals first
      | rfl
      | (exfalso; omega)
      | (exfalso; simp only [Bool.not_eq_true', Bool.not_eq_false', decide_eq_true_eq, decide_eq_false_iff_not, Bool.not_false, Bool.not_true] at *; omega)
      | (exfalso; simp_all; first | done | omega)
theorem ac_Announce (s : Sto) (n p : Nat) (hn : s.L.length = n) (hp : s.P.length = p) (hb : n ≤ 1000000 ∧ p ≤ 1000000) (hbits : s.bits < 18446744073709551616) (hd : s.data.size ≤ 1000000) (hc : chS s = true) (hz : zeB s = false) (hk : s.kn = true → (s.data.size : Int) = s.ms ∨ 1 ≤ s.mg) (g : Int) (hg : (annU s).page = g) : ACalls Tryz.prog 12 [.agg #[.int .i64 s.ver, .string s.id, .bool s.kn, .int .i64 s.mv, .int .i64 s.ms, .int .i64 s.mg, .int .i64 s.mq, .slice (some ⟨0, 0, none⟩) n n, .string s.data, .int .u64 s.bits, .slice (some ⟨1, 0, none⟩) p p]] [some ⟨List.map Value.string s.L, false, 1⟩, some ⟨List.map Value.string s.P, false, 1⟩] (.tuple #[.agg #[.int .i64 1, .int .i64 s.ver, .string s.id, .int .i64 g, .int .i64 0, .int .u64 0, .string ⟨#[]⟩], .int .i64 0]) [none, none] := by
  have H := ac_check s n p hn hp hb hbits hd _ hc
  have H1 := ac_zero s n p hn hp hb _ hz
  have H2 := ac_ann s n p hn hp hb hd hk g hg
  clear hc hz hg hk
  obtain ⟨ver, id, kn, mv, ms, mg, mq, L, data, bits, P⟩ := s
  dsimp only at *
  refine acalls_law Tryz.func12 rfl rfl rfl ?_
  repeat' first | refine st ?_ | refine stRW [0, 1] H ?_ | refine stRW [0, 1] H1 ?_ | refine stRW [0, 1] H2 ?_ | refine stm ?_ | refine run_nil ?_ | refine Jz ?_ | refine Jw ?_ | refine aw_block ?_ | refine Jr ?_ | refine Jy ?_ | refine aw_ret ?_ | refine pp_ret ?_
  all_goals first
    | rfl
    | (exfalso; omega)
    | (exfalso; simp only [Bool.not_eq_true', Bool.not_eq_false', decide_eq_true_eq, decide_eq_false_iff_not, Bool.not_false, Bool.not_true] at *; omega)
    | (exfalso; simp_all; first | done | omega)
theorem ac_own (mv ms mg mq : Int) (L : List ByteArray) (n : Nat) (hn : L.length = n) (hb : n ≤ 1000000) : ACalls Tryz.prog 31 [.agg #[.int .i64 mv, .int .i64 ms, .int .i64 mg, .int .i64 mq, .slice (some ⟨0, 0, none⟩) n n]] [some ⟨List.map Value.string L, false, 1⟩] (.agg #[.int .i64 mv, .int .i64 ms, .int .i64 mg, .int .i64 mq, .slice (some ⟨1, 0, none⟩) n n]) [none, some ⟨List.map Value.string L, true, 1⟩] := by
  have H := ac_cloneS L n hn hb
  refine acalls_of_aw Tryz.func31 rfl rfl ?_
  repeat' first | refine st ?_ | refine stMW [0] H ?_ | refine stm ?_ | refine run_nil ?_ | refine Jz ?_ | refine Jw ?_ | refine aw_ret ?_
  all_goals first | exact pm_ret _ (renumD [0, 3]) rfl
theorem ac_Full (v sz pg pk : Int) (L : List ByteArray) (n : Nat) (hn : L.length = n) (hb : n ≤ 1000000) (d : ByteArray) (hd : d.size ≤ 1000000) (c : Int) (hc : chkM v sz pg pk L = c) (D : ByteArray) (hD : idS c (encS v sz pg pk L) = D) (hy : inE c v sz pg L d = 0) : ACalls Tryz.prog 23 [.agg #[.int .i64 v, .int .i64 sz, .int .i64 pg, .int .i64 pk, .slice (some ⟨0, 0, none⟩) n n], .string d] [some ⟨List.map Value.string L, false, 1⟩] (.tuple #[.agg #[.int .i64 v, .string D, .bool true, .int .i64 v, .int .i64 sz, .int .i64 pg, .int .i64 pk, .slice (some ⟨1, 0, none⟩) n n, .string d, .int .u64 0, .slice (some ⟨2, 0, none⟩) 0 0], .int .i64 0]) [none, some ⟨List.map Value.string L, true, 1⟩, some ⟨[], true, 1⟩] := by
  have H1 := ac_intact v sz pg pk L n hn (by omega) d hd c hc 0 hy
  have H2 := ac_ID v sz pg pk L n hn (by omega) c hc D hD
  have H3 := ac_own v sz pg pk L n hn hb
  clear hc hD hy
  refine acalls_of_aw Tryz.func23 rfl rfl ?_
  refine aw_ghost 1 rfl ?_
  repeat' first | refine st ?_ | refine stRW [0] H1 ?_ | refine stRW [0] H2 ?_ | refine sdNR (r' := .agg #[.int .i64 v, .int .i64 sz, .int .i64 pg, .int .i64 pk, .slice (some ⟨4, 0, none⟩) n n]) (N := [some ⟨List.map Value.string L, true, 1⟩]) [0] 1 H3 ?_ | refine stm ?_ | refine run_nil ?_ | refine sd ?_ | refine sdl ?_ | refine sdb ?_ | refine rund_nil ?_ | refine Jz ?_ | refine Jw ?_ | refine Jx (id := 5) [0,1,0,0,8,0,63,127,255] 7 ?_ | refine Jr ?_ | refine Jy ?_ | refine aw_ret ?_
  all_goals first | (refine pmw_ret _ (renumA [0, 4, 1]) ?_; exact Wk.tupleL (.cons (Wk.aggL (.cons (.refl _) (.cons (.refl _) (.cons (.refl _) (.cons (.refl _) (.cons (.refl _) (.cons (.refl _) (.cons (.refl _) (.cons (.refl _) (.cons (.refl _) (.cons (.refl _) (.cons .nil .nil)))))))))))) (.cons (.refl _) .nil)))
end Go.Proofs.YtjofcjogbopkjaaGreat
namespace Go.Proofs.YtjofcjogbopkjaaGreat
open Go Av
set_option maxRecDepth 20000
set_option maxHeartbeats 4000000 in
theorem ac_Ask (s : Sto) (n p : Nat) (hn : s.L.length = n) (hp : s.P.length = p) (hb : n ≤ 1000000 ∧ p ≤ 1000000) (hbits : s.bits < 18446744073709551616) (hd : s.data.size ≤ 1000000) (hc : chS s = true) (hz : zeB s = false) (hp0 : cpB s = false) (hk : s.kn = true → ((s.data.size : Int) = s.ms ∨ 1 ≤ s.mg) ∧ p ≤ 64 ∧ s.bits < 2 ^ p) (g : Int) (hg : (askU s).page = g) (q : Nat) (hq : (askU s).bits = q) : ACalls Tryz.prog 14 [.agg #[.int .i64 s.ver, .string s.id, .bool s.kn, .int .i64 s.mv, .int .i64 s.ms, .int .i64 s.mg, .int .i64 s.mq, .slice (some ⟨0, 0, none⟩) n n, .string s.data, .int .u64 s.bits, .slice (some ⟨1, 0, none⟩) p p]] [some ⟨List.map Value.string s.L, false, 1⟩, some ⟨List.map Value.string s.P, false, 1⟩] (.tuple #[.agg #[.int .i64 2, .int .i64 s.ver, .string s.id, .int .i64 g, .int .i64 0, .int .u64 q, .string ⟨#[]⟩], .int .i64 0]) [none, none] := by
  have H := ac_check s n p hn hp hb hbits hd _ hc
  have H1 := ac_zero s n p hn hp hb _ hz
  have H2 := ac_complete s n p hn hp hb _ hp0
  have HD := fun h => ac_done s n p hn hp hb h hd _ rfl _ rfl
  unfold askU at hg hq
  dsimp only at hg hq
  clear hc hz hp0
  obtain ⟨ver, id, kn, mv, ms, mg, mq, L, data, bits, P⟩ := s
  dsimp only at *
  rw [hn] at hg
  rw [hp] at hq
  cases kn
  · rw [if_neg (by decide)] at hg hq
    subst hg hq
    clear HD hk
    refine acalls_law Tryz.func14 rfl rfl rfl ?_
    repeat' first | refine st ?_ | refine stRW [0, 1] H ?_ | refine stRW [0, 1] H1 ?_ | refine stRW [0, 1] H2 ?_ | refine stm ?_ | refine Ja ?_ | refine run_nil ?_ | refine Jz ?_ | refine Jw ?_ | refine aw_block ?_ | refine Jr ?_ | refine Jy ?_ | refine aw_ret ?_ | refine pp_ret ?_
    all_goals first
      | rfl
      | (exfalso; omega)
      | (exfalso; simp only [Bool.not_eq_true', Bool.not_eq_false', decide_eq_true_eq, decide_eq_false_iff_not, Bool.not_false, Bool.not_true] at *; omega)
      | (exfalso; simp_all; first | done | omega)
  · rw [if_pos rfl] at hg hq
    obtain ⟨h1, h2, h3⟩ := hk rfl
    have H3 := HD h1
    rw [hg] at H3
    have H4 := ac_full p h2
    have ha := full_andNot bits p h2 h3
    rw [hq] at ha
    clear HD hk hg
    generalize dnB ms mg data.size = z at H3
    refine acalls_law Tryz.func14 rfl rfl rfl ?_
    repeat' first | refine sd (v := .int .u64 (q : Int)) (h := by (rw [← ha]; exact ok_andNot rfl rfl)) ?_ | refine st ?_ | refine stRW [0, 1] H ?_ | refine stRW [0, 1] H1 ?_ | refine stRW [0, 1] H2 ?_ | refine stRW [0, 1] H3 ?_ | refine sd_call (H4) ?_ | refine stm ?_ | refine Ja ?_ | refine run_nil ?_ | refine sd ?_ | refine sdl ?_ | refine sdb ?_ | refine rund_nil ?_ | refine Jz ?_ | refine Jw ?_ | refine Jx (id := 8) [0,1,3,7,0,16,63,127,255] 8 ?_ | refine aw_block ?_ | refine Jq ?_ | refine Jr ?_ | refine Jy ?_ | refine aw_ret ?_ | refine pp_ret ?_
    all_goals first
      | rfl
      | (exfalso; omega)
      | (exfalso; simp only [Bool.not_eq_true', Bool.not_eq_false', decide_eq_true_eq, decide_eq_false_iff_not, Bool.not_false, Bool.not_true] at *; omega)
      | (exfalso; simp_all; first | done | omega)
theorem ac_Ask0 (s : Sto) (n p : Nat) (hn : s.L.length = n) (hp : s.P.length = p) (hb : n ≤ 1000000 ∧ p ≤ 1000000) (hbits : s.bits < 18446744073709551616) (hd : s.data.size ≤ 1000000) (hc : chS s = true) (hz : zeB s = false) (hp0 : cpB s = true) : ACalls Tryz.prog 14 [.agg #[.int .i64 s.ver, .string s.id, .bool s.kn, .int .i64 s.mv, .int .i64 s.ms, .int .i64 s.mg, .int .i64 s.mq, .slice (some ⟨0, 0, none⟩) n n, .string s.data, .int .u64 s.bits, .slice (some ⟨1, 0, none⟩) p p]] [some ⟨List.map Value.string s.L, false, 1⟩, some ⟨List.map Value.string s.P, false, 1⟩] (.tuple #[.agg #[.int .i64 0, .int .i64 0, .string ⟨#[]⟩, .int .i64 0, .int .i64 0, .int .u64 0, .string ⟨#[]⟩], .int .i64 14]) [none, none] := by
  have H := ac_check s n p hn hp hb hbits hd _ hc
  have H1 := ac_zero s n p hn hp hb _ hz
  have H2 := ac_complete s n p hn hp hb _ hp0
  clear hc hz hp0
  obtain ⟨ver, id, kn, mv, ms, mg, mq, L, data, bits, P⟩ := s
  dsimp only at *
  refine acalls_law Tryz.func14 rfl rfl rfl ?_
  repeat' first | refine st ?_ | refine stRW [0, 1] H ?_ | refine stRW [0, 1] H1 ?_ | refine stRW [0, 1] H2 ?_ | refine stm ?_ | refine Ja ?_ | refine run_nil ?_ | refine Jz ?_ | refine Jw ?_ | refine aw_block ?_ | refine Jq ?_ | refine Jr ?_ | refine aw_ret ?_ | refine pp_ret ?_
  all_goals first
    | rfl
    | (exfalso; omega)
    | (exfalso; simp only [Bool.not_eq_true', Bool.not_eq_false', decide_eq_true_eq, decide_eq_false_iff_not, Bool.not_false, Bool.not_true] at *; omega)
    | (exfalso; simp_all; first | done | omega)
end Go.Proofs.YtjofcjogbopkjaaGreat
namespace Go.Proofs.YtjofcjogbopkjaaGreat
open Go Av
set_option maxRecDepth 20000
theorem ac_cp (s : Sto) (n p : Nat) (hn : s.L.length = n) (hp : s.P.length = p) (hb : n ≤ 1000000 ∧ p ≤ 1000000) : ACalls Tryz.prog 8 [.agg #[.int .i64 s.ver, .string s.id, .bool s.kn, .int .i64 s.mv, .int .i64 s.ms, .int .i64 s.mg, .int .i64 s.mq, .slice (some ⟨0, 0, none⟩) n n, .string s.data, .int .u64 s.bits, .slice (some ⟨1, 0, none⟩) p p]] [some ⟨List.map Value.string s.L, false, 1⟩, some ⟨List.map Value.string s.P, false, 1⟩] (.agg #[.int .i64 s.ver, .string s.id, .bool s.kn, .int .i64 s.mv, .int .i64 s.ms, .int .i64 s.mg, .int .i64 s.mq, .slice (some ⟨2, 0, none⟩) n n, .string s.data, .int .u64 s.bits, .slice (some ⟨3, 0, none⟩) p p]) [none, none, some ⟨List.map Value.string s.L, true, 1⟩, some ⟨List.map Value.string s.P, true, 1⟩] := by
  have H1 := ac_cloneS s.L n hn hb.1
  have H2 := ac_cloneS s.P p hp hb.2
  obtain ⟨ver, id, kn, mv, ms, mg, mq, L, data, bits, P⟩ := s
  dsimp only at *
  refine acalls_of_aw Tryz.func8 rfl rfl ?_
  repeat' first | refine st ?_ | refine stMW [0] H1 ?_ | refine stMW [1] H2 ?_ | refine stm ?_ | refine run_nil ?_ | refine Jz ?_ | refine Jw ?_ | refine aw_ret ?_
  all_goals first | exact pm_ret _ (renumD [0, 1, 4, 5]) rfl
end Go.Proofs.YtjofcjogbopkjaaGreat
