/- Beacons: made. -/
import Derived.Test.YtdbcbclapipgdaaGreatDoorVO
import Derived.Test.YtdbcbclapipgdaaGreatDoorVN
import Derived.Test.YtdbcbclapipgdaaGreatDoorJ
import Derived.Test.YtdbcbclapipgdaaGreatDoorC13
set_option linter.unusedVariables false
set_option linter.unusedSimpArgs false
namespace Go.Proofs.YtdbcbclapipgdaaGreatDoor
open Go Av
set_option maxRecDepth 20000
set_option maxHeartbeats 8000000 in
theorem ac_rmake (nd epo pa he rnk le : Int) (li sq sx : Int) (root : Int) (op : Bool) (run : ByteArray) (v f u : Int) (C : List Int) (n : Nat) (hn : C.length = n) (hb : n ≤ 9000000000000000000) (x : Int) (hx : chkO root run v f u C = x) (m : FrT) (y : Int) (hm : mkF nd epo rnk li sq sx x (pkB (ofB root op run v f u C)) = (m, y)) : ACalls Tryz.prog 88 [.agg #[.int .i64 nd, .int .i64 epo, .int .i64 pa, .int .i64 he, .int .i64 rnk, .int .i64 le], .int .i64 li, .int .i64 sq, .int .i64 sx, .agg #[.int .i64 root, .bool op, .string run, .int .i64 v, .int .i64 f, .int .i64 u, .slice (some ⟨0, 0, none⟩) n n]] [some ⟨List.map (Value.int .i64) C, false, 1⟩] (.tuple #[frV m, .int .i64 y]) [none] := by
  unfold mkF at hm
  by_cases hx0 : x = 0
  · subst hx0
    have H1 := ac_roencode0 root op run v f u C n hn hb hx
    rw [if_neg (by simp)] at hm
    generalize pkB (ofB root op run v f u C) = w at H1 hm
    by_cases hr : 65535 ≤ rnk
    · rw [if_pos hr] at hm
      obtain ⟨rfl, rfl⟩ := Prod.mk.inj hm.symm
      refine acalls_law Tryz.func88 rfl rfl rfl ?_
      repeat' first | intro h1 | refine st ?_ | refine stRW [0] H1 ?_ | refine sdRW [0] H1 ?_ | refine st_call (H2) ?_ | refine sd_call (H2) ?_ | refine Kc ?_ | refine Ka ?_ | refine Kb ?_ ?_ | fail
      all_goals first | rfl | (exfalso; omega) | (simp [retOf]; done) | (exfalso; simp_all; done)
    · rw [if_neg hr] at hm
      obtain ⟨z, hz⟩ : ∃ z, okC nd (-1) li sq 0 0 0 sx rnk epo = z := ⟨_, rfl⟩
      have H2 := ac_rfcheck nd (-1) li sq 0 0 0 sx rnk epo w z hz
      rw [hz] at hm
      cases z
      · rw [if_neg (by simp)] at hm
        obtain ⟨rfl, rfl⟩ := Prod.mk.inj hm.symm
        replace H2 : ACalls Tryz.prog 120 [.agg #[.int .i64 3, .int .i64 nd, .int .i64 (-1), .int .i64 li, .int .i64 sq, .int .i64 0, .int .i64 0, .int .i64 0, .int .i64 sx, .int .i64 rnk, .int .i64 epo, .string w]] [] (.int .i64 1) [] := H2
        refine acalls_law Tryz.func88 rfl rfl rfl ?_
        repeat' first | intro h1 | refine st ?_ | refine stRW [0] H1 ?_ | refine sdRW [0] H1 ?_ | refine st_call (H2) ?_ | refine sd_call (H2) ?_ | refine Kc ?_ | refine Ka ?_ | refine Kb ?_ ?_ | fail
        all_goals first | rfl | (exfalso; omega) | (simp [retOf]; done) | (exfalso; simp_all; done)
      · rw [if_pos rfl] at hm
        obtain ⟨rfl, rfl⟩ := Prod.mk.inj hm.symm
        replace H2 : ACalls Tryz.prog 120 [.agg #[.int .i64 3, .int .i64 nd, .int .i64 (-1), .int .i64 li, .int .i64 sq, .int .i64 0, .int .i64 0, .int .i64 0, .int .i64 sx, .int .i64 rnk, .int .i64 epo, .string w]] [] (.int .i64 0) [] := H2
        refine acalls_law Tryz.func88 rfl rfl rfl ?_
        repeat' first | intro h1 | refine st ?_ | refine stRW [0] H1 ?_ | refine sdRW [0] H1 ?_ | refine st_call (H2) ?_ | refine sd_call (H2) ?_ | refine Kc ?_ | refine Ka ?_ | refine Kb ?_ ?_ | fail
        all_goals first | rfl | (exfalso; omega) | (simp [retOf]; done) | (exfalso; simp_all; done)
  · have H1 := ac_roencodeE root op run v f u C n hn hb x hx hx0
    rw [if_pos hx0] at hm
    obtain ⟨rfl, rfl⟩ := Prod.mk.inj hm.symm
    refine acalls_law Tryz.func88 rfl rfl rfl ?_
    repeat' first | intro h1 | refine st ?_ | refine stRW [0] H1 ?_ | refine sdRW [0] H1 ?_ | refine st_call (H2) ?_ | refine sd_call (H2) ?_ | refine Kc ?_ | refine Ka ?_ | refine Kb ?_ ?_ | fail
    all_goals first | rfl | (exfalso; omega) | (simp [retOf]; done) | (exfalso; simp_all; done)
end Go.Proofs.YtdbcbclapipgdaaGreatDoor
