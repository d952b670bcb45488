/- Join: members checked (reference). -/
import Derived.Test.YtdbcbclapipgdaaGreatDoorVO
import Derived.Test.YtdbcbclapipgdaaGreatDoorVN
import Derived.Test.YtdbcbclapipgdaaGreatDoorJ
import Derived.Test.YtdbcbclapipgdaaGreatDoorC27
set_option linter.unusedVariables false
set_option linter.unusedSimpArgs false
namespace Go.Proofs.YtdbcbclapipgdaaGreatDoor
open Go Av
set_option maxRecDepth 20000
set_option maxHeartbeats 16000000 in
theorem ac_rMembers (L : List Mb) (n : Nat) (hn : L.length = n) (hb : n ≤ 1000000) : ACalls Tryz.prog 22 [.slice (some ⟨0, 0, none⟩) n n] [some ⟨L.flatMap mbC, false, 4⟩] (.int .i64 (cond (mmB L) 0 1)) [none] := by
  refine acalls_law Tryz.func22 rfl rfl rfl ?_
  repeat' first | intro h1 | intro h1 | refine st (h := ok_not_dec2 rfl) ?_ | refine sd (h := ok_not_dec2 rfl) ?_ | refine st ?_ | refine Kc ?_ | refine Ka ?_ | refine Kb ?_ ?_ | refine Jx (id := 5) [0,1,3,7,15,31,63,127,255,511,1023,2047,4095,8191,16383,32767,65535,131071,262143,524287,1048575,2097151,4194303,8388607,16777215,33554431,67108863,134217727,268435455,536870911,1073741823,2147483647,4294967295,8589934591,17179869183,34359738367,68719476735,137438953471,274877906943,549755813887,1099511627775,1099511627775,3298534883327,8796093022207,17592186044415,35184372088831,1099511627775,71468255805439,281474976710655,562949953421311,1125899906842623] 51 ?_ | refine Jx (id := 10) [0,1,3,7,15,15,63,127,255,15,527,2047,4095] 13 ?_ | fail
  all_goals try (exfalso; omega)
  refine aw_loopg
    (S := fun y : Ri => [(0, .slice (some ⟨0, 0, none⟩) n n), (3, .int .i64 y.i)])
    (B := fun y : Ri => [some ⟨L.flatMap mbC, false, 4⟩])
    (R := fun y : Ri => y.i ≤ n ∧ gdN L y.i = true)
    (μ := fun y : Ri => n - y.i) ⟨0⟩ (fitsD [0]) ⟨Nat.zero_le _, rfl⟩ ?_
  rintro ⟨i⟩ ⟨g1, g2⟩
  dsimp only at g1 g2 ⊢
  by_cases hi : i < n
  case neg =>
    obtain rfl : i = n := by omega
    have hm : mmB L = true := by unfold mmB; rw [hn]; exact g2
    rw [hm]
    clear g2
    repeat' first | intro h1 | intro h1 | refine st (h := ok_not_dec2 rfl) ?_ | refine sd (h := ok_not_dec2 rfl) ?_ | refine st ?_ | refine Kc ?_ | refine Ka ?_ | refine Kb ?_ ?_ | refine Jx (id := 5) [0,1,3,7,15,31,63,127,255,511,1023,2047,4095,8191,16383,32767,65535,131071,262143,524287,1048575,2097151,4194303,8388607,16777215,33554431,67108863,134217727,268435455,536870911,1073741823,2147483647,4294967295,8589934591,17179869183,34359738367,68719476735,137438953471,274877906943,549755813887,1099511627775,1099511627775,3298534883327,8796093022207,17592186044415,35184372088831,1099511627775,71468255805439,281474976710655,562949953421311,1125899906842623] 51 ?_ | refine Jx (id := 10) [0,1,3,7,15,15,63,127,255,15,527,2047,4095] 13 ?_ | fail
    all_goals first
      | rfl
      | (exfalso; omega)
      | (simp [retOf]; done)
      | (exfalso; simp_all; done)
      | (exfalso; simp only [Bool.not_eq_true', Bool.not_eq_false', decide_eq_true_eq, decide_eq_false_iff_not, Bool.not_false, Bool.not_true] at *; omega)
  obtain ⟨⟨nm, sec, nd, no⟩, hq⟩ : ∃ m, L[i]? = some m := ⟨_, List.getElem?_eq_getElem (by omega)⟩
  have hnx := gdN_succ hq
  rw [g2, Bool.true_and] at hnx
  cases hgd : gdB L i ⟨nm, sec, nd, no⟩ with
  | false =>
    have hm := gdN_bad hq hgd
    rw [hm]
    clear hnx hm
    exact rm_bad L n i nm sec nd no hn hb hi hq hgd (fun σ m h => h)
  | true =>
    have hg : gdN L (i + 1) = true := by rw [hnx, hgd]
    unfold gdB mb1 at hgd
    dsimp only at hgd
    obtain ⟨k1, k2⟩ := and_t hgd
    obtain ⟨k3, k4⟩ := and_t k1
    obtain ⟨ha, hc⟩ := and_t k3
    obtain ⟨k7, k8⟩ := and_t k2
    obtain ⟨h1, h2⟩ := of_decide_eq_true k4
    by_cases h0 : i = 0
    · by_cases hn1 : nd = -1
      · exact rm_gzn L n i nm sec nd no hn hb hi hq hg ha hc h1 h0 hn1
      · rw [decide_eq_false hn1, Bool.false_or] at k8
        exact rm_gzt L n i nm sec nd no hn hb hi hq hg ha hc h1 h0 hn1 (by omega) (by omega) (by simpa using k8)
    · obtain ⟨⟨nm', sec', nd', no'⟩, hp⟩ : ∃ p, L[i - 1]? = some p := ⟨_, List.getElem?_eq_getElem (by omega)⟩
      rw [decide_eq_false h0, Bool.false_or, nmAt_at hp] at k7
      dsimp only at k7
      by_cases hn1 : nd = -1
      · exact rm_gpn L n i nm sec nd no hn hb hi hq hg ha hc h1 h0 nm' sec' nd' no' hp k7 hn1
      · rw [decide_eq_false hn1, Bool.false_or] at k8
        exact rm_gpt L n i nm sec nd no hn hb hi hq hg ha hc h1 h0 nm' sec' nd' no' hp k7 hn1 (by omega) (by omega) (by simpa using k8)
end Go.Proofs.YtdbcbclapipgdaaGreatDoor
