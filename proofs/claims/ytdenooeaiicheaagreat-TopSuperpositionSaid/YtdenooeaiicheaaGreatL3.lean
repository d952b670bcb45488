/- The law: sizes. -/
import Derived.Test.YtdenooeaiicheaaGreatVL
import Derived.Test.YtdenooeaiicheaaGreatR5
set_option linter.unusedVariables false
set_option linter.unusedSimpArgs false
namespace Go.Proofs.YtdenooeaiicheaaGreat
open Go Av
set_option maxRecDepth 20000
set_option maxHeartbeats 8000000 in
theorem ac_siteP (N : List P2) (n p w : Nat) (hn : N.length = n) (hb : n ≤ 1000000) (hpn : p ≠ n) (ex no th : Int) : ACalls Tryz.prog 22 [.agg #[.slice (some ⟨0, 0, none⟩) n n, .slice (some ⟨1, 0, none⟩) p p, .slice (some ⟨2, 0, none⟩) w w, .int .i64 ex, .int .i64 no, .int .i64 th]] [some ⟨N.flatMap ptC, false, 1⟩, none, none] (.int .i64 1) [none, none, none] := by
  obtain ⟨z1, h1⟩ : ∃ z, decide (fidx badP N ≠ -1) = z := ⟨_, rfl⟩
  have H1 := ac_cf_P N n hn (by omega) z1 h1
  clear h1
  cases z1
  · skip
    refine acalls_law Tryz.func22 rfl rfl rfl ?_
    repeat' first | intro h1 | refine st ?_ | refine stRW [0] H1 ?_ | refine stm ?_ | refine Ja ?_ | refine Jb ?_ | refine Jg ?_ | refine Ji ?_ ?_ | refine run_nil ?_ | refine Jz ?_ | refine Jw ?_ | refine Jq ?_ | refine Jr ?_ | refine Jy ?_ | refine aw_ret ?_ | refine pp_ret ?_
    all_goals first
      | rfl
      | (exfalso; omega)
      | (refine congrArg Value.bool ?_; first | exact decide_eq_true (by omega) | exact decide_eq_false (by omega) | exact (decide_eq_true (by omega)).symm | exact (decide_eq_false (by omega)).symm)
      | (show Value.bool _ = Value.bool _; congr 1; first | exact decide_eq_true (by omega) | exact decide_eq_false (by omega) | exact (decide_eq_true (by omega)).symm | exact (decide_eq_false (by omega)).symm)
      | (simp [retOf]; done)
  · skip
    refine acalls_law Tryz.func22 rfl rfl rfl ?_
    repeat' first | intro h1 | refine st ?_ | refine stRW [0] H1 ?_ | refine stm ?_ | refine Ja ?_ | refine Jb ?_ | refine Ji ?_ ?_ | refine run_nil ?_ | refine Jz ?_ | refine Jw ?_ | refine Jq ?_ | refine aw_ret ?_ | refine pp_ret ?_
    all_goals first
      | rfl
      | (exfalso; omega)
      | (refine congrArg Value.bool ?_; first | exact decide_eq_true (by omega) | exact decide_eq_false (by omega) | exact (decide_eq_true (by omega)).symm | exact (decide_eq_false (by omega)).symm)
      | (show Value.bool _ = Value.bool _; congr 1; first | exact decide_eq_true (by omega) | exact decide_eq_false (by omega) | exact (decide_eq_true (by omega)).symm | exact (decide_eq_false (by omega)).symm)
      | (simp [retOf]; done)
set_option maxHeartbeats 8000000 in
theorem ac_airCheckP (N : List P2) (n p w ns nf ne : Nat) (hn : N.length = n) (hb : n ≤ 1000000) (hpn : p ≠ n) (ex no th : Int) : ACalls Tryz.prog 6 [.agg #[.slice (some ⟨0, 0, none⟩) n n, .slice (some ⟨1, 0, none⟩) p p, .slice (some ⟨2, 0, none⟩) w w, .int .i64 ex, .int .i64 no, .int .i64 th], .agg #[.slice (some ⟨3, 0, none⟩) ns ns, .slice (some ⟨4, 0, none⟩) nf nf], .slice (some ⟨13, 0, none⟩) ne ne] [some ⟨N.flatMap ptC, false, 1⟩, none, none, none, none, none, none, none, none, none, none, none, none, none] (.int .i64 1) [none, none, none, none, none, none, none, none, none, none, none, none, none, none] := by
  have H1 := ac_siteP N n p w hn hb hpn ex no th
  refine acalls_law Tryz.func6 rfl rfl rfl ?_
  repeat' first | refine st ?_ | refine stRW [0, 1, 2] H1 ?_ | refine stm ?_ | refine Jb ?_ | refine run_nil ?_ | refine Jz ?_ | refine Jw ?_ | refine aw_block ?_ | refine Jq ?_ | refine aw_ret ?_ | refine pp_ret ?_
  all_goals first
    | rfl
    | (exfalso; omega)
    | (refine congrArg Value.bool ?_; first | exact decide_eq_true (by omega) | exact decide_eq_false (by omega) | exact (decide_eq_true (by omega)).symm | exact (decide_eq_false (by omega)).symm)
    | (show Value.bool _ = Value.bool _; congr 1; first | exact decide_eq_true (by omega) | exact decide_eq_false (by omega) | exact (decide_eq_true (by omega)).symm | exact (decide_eq_false (by omega)).symm)
    | (simp [retOf]; done)
set_option maxHeartbeats 16000000 in
theorem law_big (n p w ns nf c nl : Nat) (ex no th ve fi un slot si : Int) (h : 8 < nl ∨ 8 < n ∨ 8 < w ∨ 8 < ns ∨ 8 < nf ∨ 20 < c ∨ si < 0 ∨ (nl : Int) ≤ si) : ACalls Tryz.prog 3 [.agg #[.slice (some ⟨0, 0, none⟩) n n, .slice (some ⟨1, 0, none⟩) p p, .slice (some ⟨2, 0, none⟩) w w, .int .i64 ex, .int .i64 no, .int .i64 th, .slice (some ⟨3, 0, none⟩) ns ns, .slice (some ⟨4, 0, none⟩) nf nf, .int .i64 ve, .int .i64 fi, .int .i64 un, .slice (some ⟨13, 0, none⟩) c c], .slice (some ⟨14, 0, none⟩) nl nl, .agg #[.int .i64 slot, .int .i64 si]] [none, none, none, none, none, none, none, none, none, none, none, none, none, none, none] (.bool true) [none, none, none, none, none, none, none, none, none, none, none, none, none, none, none] := by
  have HW := ac_works
  refine acalls_law Tryz.func3 rfl rfl rfl ?_
  repeat' first | intro h1 | refine st ?_ | refine st_call (HW) ?_ | refine stm ?_ | refine Ja ?_ | refine Jb ?_ | refine Ji ?_ ?_ | refine run_nil ?_ | refine sd ?_ | refine sdl ?_ | refine rund_nil ?_ | refine Jz ?_ | refine Jw ?_ | refine Jx (id := 3) [0,1,0,4,3,31] 6 ?_ | refine Jq ?_ | refine Jr ?_ | refine Js ?_ | refine Jy ?_ | refine aw_ret ?_ | refine pp_ret ?_
  all_goals first
    | rfl
    | (exfalso; omega)
    | (refine congrArg Value.bool ?_; first | exact decide_eq_true (by omega) | exact decide_eq_false (by omega) | exact (decide_eq_true (by omega)).symm | exact (decide_eq_false (by omega)).symm)
    | (show Value.bool _ = Value.bool _; congr 1; first | exact decide_eq_true (by omega) | exact decide_eq_false (by omega) | exact (decide_eq_true (by omega)).symm | exact (decide_eq_false (by omega)).symm)
    | (simp [retOf]; done)
end Go.Proofs.YtdenooeaiicheaaGreat
