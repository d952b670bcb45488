/- TopQuietWhenAgreed: its example. -/
import Derived.Test.YtekkdoaakilafaaVL
import Derived.Test.YtekkdoaakilafaaK3
import Derived.Test.YtekkdoaakilafaaVAh
import Derived.Test.YtekkdoaakilafaaU5
import Derived.Test.YtekkdoaakilafaaT2
import Derived.Test.YtekkdoaakilafaaY4
import Derived.Test.YtekkdoaakilafaaGF
set_option linter.unusedVariables false
set_option linter.unusedSimpArgs false
namespace Go.Proofs.Ytekkdoaakilafaa
open Go Av
set_option maxRecDepth 20000
theorem w2_chk (A B : ByteArray) (hA : A.size = 32) (hB : B.size = 32) : chkM 2 3 2 1 [A, B] = 0 := by
  unfold chkM
  refine if_neg ?_
  rintro (h | h | h | h | h | h)
  · exact absurd h (by decide)
  · exact absurd h (by decide)
  · exact absurd h (by decide)
  · exact absurd h (by simp)
  · exact h rfl
  · refine h (fidx_no fun j hj q hq => ?_)
    match j, hq with
    | 0, hq => cases hq; simp [hA]
    | 1, hq => cases hq; simp [hB]
theorem w2_size (n : Int) (X : List UInt8) : (dig n X).size = 32 := by
  show (outB _ 8).toArray.size = 32
  simp [outB]
set_option maxHeartbeats 16000000 in
theorem ac_worksX {A B D E : ByteArray} (hA : dgS 2 0 ⟨#[97, 98]⟩ = A) (hB : dgS 2 1 ⟨#[99]⟩ = B) (sA : A.size = 32) (sB : B.size = 32) (hE : encS 2 3 2 1 [A, B] = E) (hD : dig 0 (idB E).data.toList = D) (sD : D.size = 32) : ACalls Try.prog 31 [] [] (.bool true) [] := by
  have hmk : mkL 2 ⟨#[97, 98, 99]⟩ 2 2 = [A, B] := by
    rw [← hA, ← hB]
    show [dgS 2 0 (pgS ⟨#[97, 98, 99]⟩ 2 0), dgS 2 1 (pgS ⟨#[97, 98, 99]⟩ 2 1)] = _
    rw [show pgS ⟨#[97, 98, 99]⟩ 2 0 = ⟨#[97, 98]⟩ by decide +kernel, show pgS ⟨#[97, 98, 99]⟩ 2 1 = ⟨#[99]⟩ by decide +kernel]
  have hc := w2_chk A B sA sB
  have hy : inE 0 2 3 2 [A, B] ⟨#[97, 98, 99]⟩ = 0 := by unfold inE; rw [if_neg (by decide), if_neg (by decide), show mkN ⟨#[97, 98, 99]⟩ 2 = 2 by decide +kernel, if_pos hmk]
  obtain ⟨o1, o2, _⟩ := full_ok hc hy
  rw [hE, hD] at o1
  have H1 := ac_make 2 ⟨#[97, 98, 99]⟩ 2 1 (by decide) 0 (by decide +kernel) 2 (by decide +kernel)
  rw [if_neg (by decide), if_neg (by decide), hmk] at H1
  have H2 := ac_Full 2 3 2 1 [A, B] 2 rfl (by decide) ⟨#[97, 98, 99]⟩ (by decide) 0 hc D (by rw [hE, ← hD]; exact if_neg (by decide)) hy
  have H3 : ACalls Try.prog 18 [.agg #[.int .i64 2, .string D, .bool true, .int .i64 2, .int .i64 3, .int .i64 2, .int .i64 1, .slice (some ⟨0, 0, none⟩) 2 2, .string ⟨#[97, 98, 99]⟩, .int .u64 0, .slice (some ⟨1, 0, none⟩) 0 0]] [some ⟨[.string A, .string B], false, 1⟩, some ⟨[], false, 1⟩] (.tuple #[.agg #[.int .i64 1, .int .i64 2, .string D, .int .i64 2, .int .i64 0, .int .u64 0, .string ⟨#[]⟩], .int .i64 0]) [none, none] := ac_Announce ⟨2, D, true, 2, 3, 2, 1, [A, B], ⟨#[97, 98, 99]⟩, 0, []⟩ 2 0 rfl rfl (by decide) (by show 0 < 18446744073709551616; decide) (by show 3 ≤ 1000000; decide) o1 (decide_eq_false fun h => absurd h.1 (by show ¬ (2 : Int) = 0; decide)) (fun _ => .inr (by show (1 : Int) ≤ 2; decide)) 2 (by show dnN 3 2 2 3 = 2; decide)
  have H4 : ACalls Try.prog 20 [.agg #[.int .i64 0, .string ⟨#[]⟩, .bool false, .int .i64 0, .int .i64 0, .int .i64 0, .int .i64 0, .slice (some ⟨0, 0, none⟩) 0 0, .string ⟨#[]⟩, .int .u64 0, .slice (some ⟨1, 0, none⟩) 0 0], .agg #[.int .i64 1, .int .i64 2, .string D, .int .i64 2, .int .i64 0, .int .u64 0, .string ⟨#[]⟩]] [some ⟨[], false, 1⟩, some ⟨[], false, 1⟩] (.tuple #[.agg #[.int .i64 2, .string D, .bool false, .int .i64 0, .int .i64 0, .int .i64 0, .int .i64 0, .slice (some ⟨2, 0, none⟩) 0 0, .string ⟨#[]⟩, .int .u64 0, .slice (some ⟨3, 0, none⟩) 0 0], .bool false, .int .i64 0]) [none, none, some ⟨[], true, 1⟩, some ⟨[], true, 1⟩] := ac_HearN sto0 0 0 rfl rfl (by decide) (by show 0 < 18446744073709551616; decide) (by show 0 ≤ 100000; decide) (by decide) 1 2 D 2 0 0 ⟨#[]⟩ (by
    unfold valU
    rw [decide_eq_true ⟨by decide, by decide, sD⟩]
    decide) rfl (by show (0 : Int) < 2; decide)
  have H5 : ACalls Try.prog 22 [.agg #[.int .i64 2, .string D, .bool false, .int .i64 0, .int .i64 0, .int .i64 0, .int .i64 0, .slice (some ⟨0, 0, none⟩) 0 0, .string ⟨#[]⟩, .int .u64 0, .slice (some ⟨1, 0, none⟩) 0 0]] [some ⟨[], false, 1⟩, some ⟨[], false, 1⟩] (.tuple #[.agg #[.int .i64 2, .int .i64 2, .string D, .int .i64 (-1), .int .i64 0, .int .u64 0, .string ⟨#[]⟩], .int .i64 0]) [none, none] := ac_Ask ⟨2, D, false, 0, 0, 0, 0, [], ⟨#[]⟩, 0, []⟩ 0 0 rfl rfl (by decide) (by show 0 < 18446744073709551616; decide) (by show 0 ≤ 1000000; decide) (ch_new ⟨by decide, by decide, sD⟩) (decide_eq_false fun h => absurd h.1 (by show ¬ (2 : Int) = 0; decide)) rfl (fun h => absurd (show false = true from h) (by decide)) (-1) rfl 0 rfl
  have H6 := ac_ServeM ⟨2, D, true, 2, 3, 2, 1, [A, B], ⟨#[97, 98, 99]⟩, 0, []⟩ 2 0 rfl rfl (by decide) (by show 0 < 18446744073709551616; decide) (by show 3 ≤ 100000; decide) o1 rfl 2 D (-1) 0 (by
    unfold valU
    rw [decide_eq_true ⟨by decide, by decide, sD⟩, if_neg (by decide), if_pos rfl]
    decide) rfl rfl (by decide)
  obtain ⟨Z, hZ⟩ : ∃ Z, srvL ⟨2, D, true, 2, 3, 2, 1, [A, B], ⟨#[97, 98, 99]⟩, 0, []⟩ (-1) 0 = Z := ⟨_, rfl⟩
  rw [hZ] at H6
  have H6 : ACalls Try.prog 24 [.agg #[.int .i64 2, .string D, .bool true, .int .i64 2, .int .i64 3, .int .i64 2, .int .i64 1, .slice (some ⟨0, 0, none⟩) 2 2, .string ⟨#[97, 98, 99]⟩, .int .u64 0, .slice (some ⟨1, 0, none⟩) 0 0], .agg #[.int .i64 2, .int .i64 2, .string D, .int .i64 (-1), .int .i64 0, .int .u64 0, .string ⟨#[]⟩]] [some ⟨[.string A, .string B], false, 1⟩, some ⟨[], false, 1⟩] (.tuple #[.slice (some ⟨2, 0, none⟩) 1 1, .int .i64 0]) [none, none, some ⟨Z.flatMap updC, true, 7⟩] := H6
  have H7 : ACalls Try.prog 71 [.agg #[.int .i64 4, .int .i64 0, .int .i64 0], .int .i64 0, .int .u32 1] [] (.tuple #[.agg #[.int .i64 4, .int .i64 0, .int .i64 3, .int .i64 0], .int .i64 0]) [] := ac_gstart0 4 0 0 0 1 rfl (by decide) (by decide)
  have H8 : ACalls Try.prog 15 [.agg #[.int .i64 2, .string D, .bool true, .int .i64 2, .int .i64 3, .int .i64 2, .int .i64 1, .slice (some ⟨0, 0, none⟩) 2 2, .string ⟨#[97, 98, 99]⟩, .int .u64 0, .slice (some ⟨1, 0, none⟩) 0 0]] [some ⟨[.string A, .string B], false, 1⟩, some ⟨[], false, 1⟩] (.bool true) [none, none] := ac_Complete ⟨2, D, true, 2, 3, 2, 1, [A, B], ⟨#[97, 98, 99]⟩, 0, []⟩ 2 0 rfl rfl (by decide) (by show 0 < 18446744073709551616; decide) (by show 3 ≤ 1000000; decide) true true o1 (by show (true && decide (((3 : Nat) : Int) = 3)) = true; decide)
  clear hA hB hE hD hmk hc hy o1 o2 hZ
  refine acalls_pure Try.func31 rfl rfl rfl ?_
  refine aw_ghost 1 rfl ?_
  refine aw_ghost 1 rfl ?_
  repeat' first | intro h1 | intro h1 | refine st ?_ | refine stMW [] H1 ?_ | refine stMW [2] H2 ?_ | refine stRW [4, 5] H3 ?_ | refine stMW [0, 1] H4 ?_ | refine stRW [8, 9] H5 ?_ | refine stMW [4, 5] H6 ?_ | refine stRW [4, 5] H8 ?_ | refine st_call (H7) ?_ | refine sd_call (H7) ?_ | refine stm ?_ | refine Ja ?_ | refine Jb ?_ | refine Jc ?_ | refine Jd ?_ | refine Je ?_ | refine Jf ?_ | refine Jg ?_ | refine Jh ?_ ?_ | refine Ji ?_ ?_ | refine Jj ?_ ?_ | refine run_nil ?_ | refine Jz ?_ | refine Jw ?_ | refine aw_block ?_ | refine Jq ?_ | refine Jr ?_ | refine Js ?_ | refine Jt ?_ | refine Ju ?_ ?_ | refine Jv ?_ ?_ | refine Jy ?_ | refine aw_exit ?_ | refine aw_ret ?_ | refine pp_ret ?_ | refine pp_normal ?_
  all_goals first | rfl | (exfalso; omega) | (simp [retOf]; done) | (exfalso; simp_all; done)
theorem ac_works : ACalls Try.prog 31 [] [] (.bool true) [] := ac_worksX rfl rfl (w2_size _ _) (w2_size _ _) rfl rfl (w2_size _ _)
end Go.Proofs.Ytekkdoaakilafaa
