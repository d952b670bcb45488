/- TransferFull: the law. -/
import Derived.Test.YtekkdoaakilafaaVL
import Derived.Test.YtekkdoaakilafaaY4
import Derived.Test.YtekkdoaakilafaaW4
set_option linter.unusedVariables false
set_option linter.unusedSimpArgs false
namespace Go.Proofs.Ytekkdoaakilafaa
open Go Av
set_option maxRecDepth 20000
set_option maxHeartbeats 16000000 in
theorem law_full (v sz pg pk : Int) (L : List ByteArray) (d : ByteArray) : ACalls Try.prog 3 [.agg #[.int .i64 v, .int .i64 sz, .int .i64 pg, .int .i64 pk, .slice (some ⟨0, 0, none⟩) L.length L.length], .string d] [some ⟨List.map Value.string L, false, 1⟩] (.bool true) [none] := by
  obtain ⟨n, hn⟩ : ∃ n, L.length = n := ⟨_, rfl⟩
  rw [hn]
  obtain ⟨w, hw⟩ : ∃ w, fewM L = w := ⟨_, rfl⟩
  have HF := ac_fewA v sz pg pk L n hn w hw
  cases w
  · clear hw
    refine acalls_law Try.func3 rfl rfl rfl ?_
    repeat' first | intro h1 | refine st (h := ok_not_dec2 rfl) ?_ | refine st_call (ac_awake) ?_ | refine st ?_ | refine stRW [0] HF ?_ | refine sdRW [0] HF ?_ | refine stm ?_ | refine Ja ?_ | refine Jb ?_ | refine Jc ?_ | refine Jd ?_ | refine Je ?_ | refine Jf ?_ | refine Jg ?_ | refine Jh ?_ ?_ | refine Ji ?_ ?_ | refine Jj ?_ ?_ | refine run_nil ?_ | refine Jz ?_ | refine Jw ?_ | refine aw_block ?_ | refine Jq ?_ | refine Jr ?_ | refine Js ?_ | refine Jt ?_ | refine Ju ?_ ?_ | refine Jv ?_ ?_ | refine Jy ?_ | refine aw_exit ?_ | refine aw_ret ?_ | refine pp_ret ?_ | refine pp_normal ?_
    all_goals first
      | rfl
      | (exfalso; omega)
      | (simp [retOf]; done)
      | (exfalso; simp_all; done)
  have hfew := (fewM_spec hw).1
  rw [hn] at hfew
  clear hw
  by_cases hd : d.size ≤ 1000
  case neg =>
    refine acalls_law Try.func3 rfl rfl rfl ?_
    repeat' first | intro h1 | refine st (h := ok_not_dec2 rfl) ?_ | refine st_call (ac_awake) ?_ | refine st ?_ | refine stRW [0] HF ?_ | refine sdRW [0] HF ?_ | refine stm ?_ | refine Ja ?_ | refine Jb ?_ | refine Jc ?_ | refine Jd ?_ | refine Je ?_ | refine Jf ?_ | refine Jg ?_ | refine Jh ?_ ?_ | refine Ji ?_ ?_ | refine Jj ?_ ?_ | refine run_nil ?_ | refine Jz ?_ | refine Jw ?_ | refine aw_block ?_ | refine Jq ?_ | refine Jr ?_ | refine Js ?_ | refine Jt ?_ | refine Ju ?_ ?_ | refine Jv ?_ ?_ | refine Jy ?_ | refine aw_exit ?_ | refine aw_ret ?_ | refine pp_ret ?_ | refine pp_normal ?_
    all_goals first
      | rfl
      | (exfalso; omega)
      | (simp [retOf]; done)
      | (exfalso; simp_all; done)
  obtain ⟨c, hc⟩ : ∃ c, chkM v sz pg pk L = c := ⟨_, rfl⟩
  obtain ⟨y, hy⟩ : ∃ y, inE c v sz pg L d = y := ⟨_, rfl⟩
  have HI := ac_intact v sz pg pk L n hn (by omega) d (by omega) c hc y hy
  by_cases hy0 : y = 0
  · subst hy0
    have hc0 : c = 0 := by
      rcases chk_01 v sz pg pk L with h | h
      · omega
      · exfalso
        have : inE c v sz pg L d = 1 := if_pos (by omega)
        omega
    subst hc0
    obtain ⟨o1, o2, _⟩ := full_ok hc hy
    obtain ⟨D, hD⟩ : ∃ D, dig 0 (idB (encS v sz pg pk L)).data.toList = D := ⟨_, rfl⟩
    rw [hD] at o1
    have hDi : idS 0 (encS v sz pg pk L) = D := by unfold idS; rw [if_neg (by decide)]; exact hD
    have H1 := ac_Full v sz pg pk L n hn (by omega) d (by omega) 0 hc D hDi hy
    have H2 := ac_rFull v sz pg pk L n hn (by omega) d (by omega) 0 hc D hDi hy
    have H3 := ac_sameS ⟨v, D, true, v, sz, pg, pk, L, d, 0, []⟩ n 0 hn rfl (by omega)
    have H4 := ac_Complete ⟨v, D, true, v, sz, pg, pk, L, d, 0, []⟩ n 0 hn rfl (by omega) (by show 0 < 18446744073709551616; decide) (by dsimp only; omega) true true o1 (by show (true && decide ((d.size : Int) = sz)) = true; rw [decide_eq_true o2]; rfl)
    clear hc hy o1 o2 hD hDi
    dsimp only [List.map_nil] at H3 H4
    refine acalls_law Try.func3 rfl rfl rfl ?_
    refine aw_ghost 1 rfl ?_
    repeat' first | intro h1 | refine st (h := ok_not_dec2 rfl) ?_ | refine st_call (ac_awake) ?_ | refine st (h := ok_str_eqlT rfl rfl) ?_ | refine st (h := ok_str_neqF rfl rfl) ?_ | refine sd (h := ok_str_eqlT rfl rfl) ?_ | refine sd (h := ok_str_neqF rfl rfl) ?_ | refine st ?_ | refine stRW [0] HF ?_ | refine stMW [0] H1 ?_ | refine stMW [0] H2 ?_ | refine stRW [3, 4, 0, 1] H3 ?_ | refine stRW [3, 4] H4 ?_ | refine stRW [0] HI ?_ | refine sdRW [0] HF ?_ | refine sdRW [3, 4, 0, 1] H3 ?_ | refine sdRW [3, 4] H4 ?_ | refine sdRW [0] HI ?_ | refine stm ?_ | refine Ja ?_ | refine Jb ?_ | refine Jc ?_ | refine Jd ?_ | refine Je ?_ | refine Jf ?_ | refine Jg ?_ | refine Jh ?_ ?_ | refine Ji ?_ ?_ | refine Jj ?_ ?_ | refine run_nil ?_ | refine Jz ?_ | refine Jw ?_ | refine aw_block ?_ | refine Jq ?_ | refine Jr ?_ | refine Js ?_ | refine Jt ?_ | refine Ju ?_ ?_ | refine Jv ?_ ?_ | refine Jy ?_ | refine aw_exit ?_ | refine aw_ret ?_ | refine pp_ret ?_ | refine pp_normal ?_
    all_goals first
      | rfl
      | (exfalso; omega)
      | (simp [retOf]; done)
      | (exfalso; simp_all; done)
  · have H1 := ac_FullX v sz pg pk L n hn (by omega) d (by omega) c hc y hy hy0
    have H2 := ac_rFullX v sz pg pk L n hn (by omega) d (by omega) c hc y hy hy0
    have H3 := ac_sameS sto0 0 0 rfl rfl (by omega)
    have H4 := ac_Complete sto0 0 0 rfl rfl (by omega) (by show 0 < 18446744073709551616; decide) (by show 0 ≤ 1000000; decide) true false (by decide) rfl
    clear hc hy
    dsimp only [sto0, List.map_nil] at H3 H4
    refine acalls_law Try.func3 rfl rfl rfl ?_
    refine aw_ghost 1 rfl ?_
    refine aw_ghost 1 rfl ?_
    refine aw_ghost 1 rfl ?_
    refine aw_ghost 1 rfl ?_
    repeat' first | intro h1 | refine st (h := ok_not_dec2 rfl) ?_ | refine st_call (ac_awake) ?_ | refine st (h := ok_str_eqlT rfl rfl) ?_ | refine st (h := ok_str_neqF rfl rfl) ?_ | refine sd (h := ok_str_eqlT rfl rfl) ?_ | refine sd (h := ok_str_neqF rfl rfl) ?_ | refine st ?_ | refine stRW [0] HF ?_ | refine stRW [0] H1 ?_ | refine stRW [0] H2 ?_ | refine stRW [1, 2, 3, 4] H3 ?_ (hargs := .cons (Wk.aggL (.cons (.refl _) (.cons (.refl _) (.cons (.refl _) (.cons (.refl _) (.cons (.refl _) (.cons (.refl _) (.cons (.refl _) (.cons .nil (.cons (.refl _) (.cons (.refl _) (.cons .nil .nil)))))))))))) (.cons (Wk.aggL (.cons (.refl _) (.cons (.refl _) (.cons (.refl _) (.cons (.refl _) (.cons (.refl _) (.cons (.refl _) (.cons (.refl _) (.cons .nil (.cons (.refl _) (.cons (.refl _) (.cons .nil .nil)))))))))))) .nil)) | refine stRW [1, 2] H4 ?_ | refine stRW [0] HI ?_ | refine sdRW [0] HF ?_ | refine sdRW [0] H1 ?_ | refine sdRW [0] H2 ?_ | refine sdRW [1, 2, 3, 4] H3 ?_ (hargs := .cons (Wk.aggL (.cons (.refl _) (.cons (.refl _) (.cons (.refl _) (.cons (.refl _) (.cons (.refl _) (.cons (.refl _) (.cons (.refl _) (.cons .nil (.cons (.refl _) (.cons (.refl _) (.cons .nil .nil)))))))))))) (.cons (Wk.aggL (.cons (.refl _) (.cons (.refl _) (.cons (.refl _) (.cons (.refl _) (.cons (.refl _) (.cons (.refl _) (.cons (.refl _) (.cons .nil (.cons (.refl _) (.cons (.refl _) (.cons .nil .nil)))))))))))) .nil)) | refine sdRW [1, 2] H4 ?_ | refine sdRW [0] HI ?_ | refine stm ?_ | refine Ja ?_ | refine Jb ?_ | refine Jc ?_ | refine Jd ?_ | refine Je ?_ | refine Jf ?_ | refine Jg ?_ | refine Jh ?_ ?_ | refine Ji ?_ ?_ | refine Jj ?_ ?_ | refine run_nil ?_ | refine Jz ?_ | refine Jw ?_ | refine aw_block ?_ | refine Jq ?_ | refine Jr ?_ | refine Js ?_ | refine Jt ?_ | refine Ju ?_ ?_ | refine Jv ?_ ?_ | refine Jy ?_ | refine aw_exit ?_ | refine aw_ret ?_ | refine pp_ret ?_ | refine pp_normal ?_
    all_goals first
      | rfl
      | (exfalso; omega)
      | (simp [retOf]; done)
      | (exfalso; simp_all; done)
end Go.Proofs.Ytekkdoaakilafaa
