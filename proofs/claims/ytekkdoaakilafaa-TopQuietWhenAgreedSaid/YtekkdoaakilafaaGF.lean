/- Gossip: begin, Start, check. Gossip: Step, Hear. -/
import Derived.Test.YtekkdoaakilafaaVL
import Derived.Test.YtekkdoaakilafaaGD
set_option linter.unusedVariables false
set_option linter.unusedSimpArgs false
namespace Go.Proofs.Ytekkdoaakilafaa
open Go Av
set_option maxRecDepth 20000
set_option maxHeartbeats 1000000 in
theorem ac_begin (n s x : Int) (hn : 2 ≤ n ∧ n ≤ 262144) (hs : 0 ≤ s ∧ s ≤ 1073741824) (hx : 0 ≤ x ∧ x ≤ 4294967295) : ACalls Try.prog 76 [.int .i64 n, .int .i64 s, .int .u32 x] [] (.agg #[.int .i64 n, .int .i64 s, .int .i64 (s + n / 2 + x % (n - n / 2)), .int .i64 0]) [] := by
  obtain ⟨m1, m2, m3, m4⟩ := md_bd n x hn.1 hn.2
  refine acalls_law Try.func76 rfl rfl rfl ?_
  repeat' first | intro h1 | refine st ?_ | refine stm ?_ | refine Ja ?_ | refine Jb ?_ | refine Jc ?_ | refine Jd ?_ | refine Je ?_ | refine Jf ?_ | refine Jg ?_ | refine Jh ?_ ?_ | refine Ji ?_ ?_ | refine Jj ?_ ?_ | refine run_nil ?_ | refine Jz ?_ | refine Jw ?_ | refine aw_block ?_ | refine Jq ?_ | refine Jr ?_ | refine Js ?_ | refine Jt ?_ | refine Ju ?_ ?_ | refine Jv ?_ ?_ | refine Jy ?_ | refine aw_exit ?_ | refine aw_ret ?_ | refine pp_ret ?_ | refine pp_normal ?_
  all_goals first | rfl | (exfalso; omega) | (exfalso; simp only [Bool.not_eq_true', Bool.not_eq_false', decide_eq_true_eq, decide_eq_false_iff_not, Bool.not_false, Bool.not_true] at *; omega)
theorem ac_gstart0 (l d e s x : Int) (hg : gok l d e = true) (hs : 0 ≤ s ∧ s ≤ 1073741824) (hx : 0 ≤ x ∧ x ≤ 4294967295) : ACalls Try.prog 71 [.agg #[.int .i64 l, .int .i64 d, .int .i64 e], .int .i64 s, .int .u32 x] [] (.tuple #[.agg #[.int .i64 l, .int .i64 s, .int .i64 (s + l / 2 + x % (l - l / 2)), .int .i64 0], .int .i64 0]) [] := by
  obtain ⟨l1, l2, d1, d2, e1, e2⟩ := gok_t hg
  have HC := ac_gcheck l d e 0 (gE_0 (by omega)).symm
  have HB := ac_begin l s x (by omega) hs hx
  refine acalls_law Try.func71 rfl rfl rfl ?_
  repeat' first | intro h1 | refine st ?_ | refine st_call HC ?_ | refine st_call HB ?_ | refine stm ?_ | refine Ja ?_ | refine Jb ?_ | refine Jc ?_ | refine Jd ?_ | refine Je ?_ | refine Jf ?_ | refine Jg ?_ | refine Jh ?_ ?_ | refine Ji ?_ ?_ | refine Jj ?_ ?_ | refine run_nil ?_ | refine Jz ?_ | refine Jw ?_ | refine aw_block ?_ | refine Jq ?_ | refine Jr ?_ | refine Js ?_ | refine Jt ?_ | refine Ju ?_ ?_ | refine Jv ?_ ?_ | refine Jy ?_ | refine aw_exit ?_ | refine aw_ret ?_ | refine pp_ret ?_ | refine pp_normal ?_
  all_goals first | rfl | (exfalso; omega) | (exfalso; simp only [Bool.not_eq_true', Bool.not_eq_false', decide_eq_true_eq, decide_eq_false_iff_not, Bool.not_false, Bool.not_true] at *; omega)
theorem ac_great (l d e : Int) (hg : gok l d e = true) : ACalls Try.prog 73 [.agg #[.int .i64 l, .int .i64 d, .int .i64 e]] [] (.int .i64 (top l d)) [] := by
  obtain ⟨l1, l2, d1, d2, e1, e2⟩ := gok_t hg
  have hs := shl_l (l := l) (k := d.toNat) (by omega) l1 l2
  rw [show ((d.toNat : Nat) : Int) = d by omega] at hs
  refine acalls_law Try.func73 rfl rfl rfl ?_
  repeat' first | intro h1 | refine st (h := ok_shlE hs rfl rfl (by omega)) ?_ | refine st ?_ | refine stm ?_ | refine Ja ?_ | refine Jb ?_ | refine Jc ?_ | refine Jd ?_ | refine Je ?_ | refine Jf ?_ | refine Jg ?_ | refine Jh ?_ ?_ | refine Ji ?_ ?_ | refine Jj ?_ ?_ | refine run_nil ?_ | refine Jz ?_ | refine Jw ?_ | refine aw_block ?_ | refine Jq ?_ | refine Jr ?_ | refine Js ?_ | refine Jt ?_ | refine Ju ?_ ?_ | refine Jv ?_ ?_ | refine Jy ?_ | refine aw_exit ?_ | refine aw_ret ?_ | refine pp_ret ?_ | refine pp_normal ?_
  all_goals first | rfl | (exfalso; omega) | (exfalso; simp only [Bool.not_eq_true', Bool.not_eq_false', decide_eq_true_eq, decide_eq_false_iff_not, Bool.not_false, Bool.not_true] at *; omega)
theorem ac_Great (l d e : Int) (hg : gok l d e = true) : ACalls Try.prog 33 [.agg #[.int .i64 l, .int .i64 d, .int .i64 e]] [] (.int .i64 (top l d)) [] := by
  obtain ⟨l1, l2, d1, d2, e1, e2⟩ := gok_t hg
  have HC := ac_gcheck l d e 0 (gE_0 (by omega)).symm
  have HB := ac_great l d e hg
  refine acalls_law Try.func33 rfl rfl rfl ?_
  repeat' first | intro h1 | refine st ?_ | refine st_call HC ?_ | refine st_call HB ?_ | refine stm ?_ | refine Ja ?_ | refine Jb ?_ | refine Jc ?_ | refine Jd ?_ | refine Je ?_ | refine Jf ?_ | refine Jg ?_ | refine Jh ?_ ?_ | refine Ji ?_ ?_ | refine Jj ?_ ?_ | refine run_nil ?_ | refine Jz ?_ | refine Jw ?_ | refine aw_block ?_ | refine Jq ?_ | refine Jr ?_ | refine Js ?_ | refine Jt ?_ | refine Ju ?_ ?_ | refine Jv ?_ ?_ | refine Jy ?_ | refine aw_exit ?_ | refine aw_ret ?_ | refine pp_ret ?_ | refine pp_normal ?_
  all_goals first | rfl | (exfalso; omega) | (exfalso; simp only [Bool.not_eq_true', Bool.not_eq_false', decide_eq_true_eq, decide_eq_false_iff_not, Bool.not_false, Bool.not_true] at *; omega)
theorem ac_quiet (l d e i b p h : Int) : ACalls Try.prog 77 [.agg #[.int .i64 l, .int .i64 d, .int .i64 e], .agg #[.int .i64 i, .int .i64 b, .int .i64 p, .int .i64 h]] [] (.bool (decide (e = 0 ∨ h < e))) [] := by
  refine acalls_law Try.func77 rfl rfl rfl ?_
  repeat' first | intro h1 | refine st ?_ | refine stm ?_ | refine Ja ?_ | refine Jb ?_ | refine Jc ?_ | refine Jd ?_ | refine Je ?_ | refine Jf ?_ | refine Jg ?_ | refine Jh ?_ ?_ | refine Ji ?_ ?_ | refine Jj ?_ ?_ | refine run_nil ?_ | refine Jz ?_ | refine Jw ?_ | refine aw_block ?_ | refine Jq ?_ | refine Jr ?_ | refine Js ?_ | refine Jt ?_ | refine Ju ?_ ?_ | refine Jv ?_ ?_ | refine Jy ?_ | refine aw_exit ?_ | refine aw_ret ?_ | refine pp_ret ?_ | refine pp_normal ?_
  all_goals first | (show Value.bool _ = Value.bool _; congr 1; first | exact (decide_eq_false (by omega)).symm | exact (decide_eq_true (by omega)).symm | exact decide_eq_decide.2 (by omega))
theorem ac_chk0 (l d e i b p h s : Int) (hc : cE l d e ⟨i, b, p, h⟩ s = 0) : ACalls Try.prog 75 [.agg #[.int .i64 l, .int .i64 d, .int .i64 e], .agg #[.int .i64 i, .int .i64 b, .int .i64 p, .int .i64 h], .int .i64 s] [] (.int .i64 0) [] := by
  have o := cE_out hc
  have hv : vE l d e ⟨i, b, p, h⟩ = 0 := by
    unfold cE at hc
    split at hc
    · assumption
    · exact hc
  have HV := ac_valid0 l d e i b p h hv
  have o1 := o.s1
  have o2 := o.s2
  have o3 := o.s3
  dsimp only at o3
  refine acalls_law Try.func75 rfl rfl rfl ?_
  repeat' first | intro h1 | refine st ?_ | refine st_call HV ?_ | refine stm ?_ | refine Ja ?_ | refine Jb ?_ | refine Jc ?_ | refine Jd ?_ | refine Je ?_ | refine Jf ?_ | refine Jg ?_ | refine Jh ?_ ?_ | refine Ji ?_ ?_ | refine Jj ?_ ?_ | refine run_nil ?_ | refine Jz ?_ | refine Jw ?_ | refine aw_block ?_ | refine Jq ?_ | refine Jr ?_ | refine Js ?_ | refine Jt ?_ | refine Ju ?_ ?_ | refine Jv ?_ ?_ | refine Jy ?_ | refine aw_exit ?_ | refine aw_ret ?_ | refine pp_ret ?_ | refine pp_normal ?_
  all_goals first | rfl | (exfalso; omega) | (exfalso; simp only [Bool.not_eq_true', Bool.not_eq_false', decide_eq_true_eq, decide_eq_false_iff_not, Bool.not_false, Bool.not_true] at *; omega)
end Go.Proofs.Ytekkdoaakilafaa
namespace Go.Proofs.Ytekkdoaakilafaa
open Go Av
set_option maxRecDepth 20000
set_option maxHeartbeats 1000000 in
/-- A step within an interval. -/
theorem ac_step_in (l d e i b p h s x : Int) (y : Bool) (hc : cE l d e ⟨i, b, p, h⟩ s = 0) (hlt : s < b + i) (hy : decide (s = p ∧ (e = 0 ∨ h < e)) = y) : ACalls Try.prog 35 [.agg #[.int .i64 l, .int .i64 d, .int .i64 e], .agg #[.int .i64 i, .int .i64 b, .int .i64 p, .int .i64 h], .int .i64 s, .int .u32 x] [] (.tuple #[.agg #[.int .i64 i, .int .i64 b, .int .i64 p, .int .i64 h], .bool y, .int .i64 0]) [] := by
  have o := cE_out hc
  obtain ⟨hg, l1, l2, d1, d2, e1, e2, i1, i2, b1, b2, p1, p2, h1, h2, s1, s2, s3⟩ := o
  dsimp only at i1 i2 b1 b2 p1 p2 h1 h2 s3
  have HC := ac_chk0 l d e i b p h s hc
  have HQ := ac_quiet l d e i b p h
  have HG := ac_great l d e hg
  refine acalls_law Try.func35 rfl rfl rfl ?_
  repeat' first | intro h1 | refine st ?_ | refine st_call HC ?_ | refine st_call HQ ?_ | refine st_call HG ?_ | refine sd_call HC ?_ | refine sd_call HQ ?_ | refine sd_call HG ?_ | refine stm ?_ | refine Ja ?_ | refine Jb ?_ | refine Jc ?_ | refine Jd ?_ | refine Je ?_ | refine Jf ?_ | refine Jg ?_ | refine Jh ?_ ?_ | refine Ji ?_ ?_ | refine Jj ?_ ?_ | refine run_nil ?_ | refine sd ?_ | refine sdl ?_ | refine sdm (n := 1) ?_ | refine sdm ?_ | refine sdb ?_ | refine Jk ?_ | refine Jl ?_ | refine Jm ?_ | refine Jn ?_ ?_ | refine Jo ?_ ?_ | refine Jp ?_ ?_ | refine rund_nil ?_ | refine Jz ?_ | refine Jw ?_ | refine Jx (id := 5) [0,1,3,0,8,31,0,0,255,511] 9 ?_ | refine Jx (id := 6) [0,0,0,4,14,30,62,62,254,510,511,2047,4095] 10 ?_ | refine aw_block ?_ | refine Jq ?_ | refine Jr ?_ | refine Js ?_ | refine Jt ?_ | refine Ju ?_ ?_ | refine Jv ?_ ?_ | refine Jy ?_ | refine aw_exit ?_ | refine aw_ret ?_ | refine pp_ret ?_ | refine pp_normal ?_
  all_goals first | (exfalso; omega) | rfl | (show Value.tuple _ = Value.tuple _; congr 3; rw [← hy]; first | (congr 1; first | exact (decide_eq_false (by omega)).symm | exact (decide_eq_true (by omega)).symm | exact decide_eq_decide.2 (by omega))) | (rw [← hy]; simp [retOf]; omega)
set_option maxHeartbeats 1000000 in
/-- A step into the next interval. -/
theorem ac_step_out (l d e i b p h s x n : Int) (y : Bool) (hx : 0 ≤ x ∧ x ≤ 4294967295) (hc : cE l d e ⟨i, b, p, h⟩ s = 0) (hlt : b + i ≤ s) (hn : min (2 * i) (top l d) = n) (hn2 : 2 ≤ n ∧ n ≤ 262144) (hy : decide (s = s + n / 2 + x % (n - n / 2) ∧ (e = 0 ∨ 0 < e)) = y) : ACalls Try.prog 35 [.agg #[.int .i64 l, .int .i64 d, .int .i64 e], .agg #[.int .i64 i, .int .i64 b, .int .i64 p, .int .i64 h], .int .i64 s, .int .u32 x] [] (.tuple #[.agg #[.int .i64 n, .int .i64 s, .int .i64 (s + n / 2 + x % (n - n / 2)), .int .i64 0], .bool y, .int .i64 0]) [] := by
  have o := cE_out hc
  obtain ⟨hg, l1, l2, d1, d2, e1, e2, i1, i2, b1, b2, p1, p2, h1, h2, s1, s2, s3⟩ := o
  dsimp only at i1 i2 b1 b2 p1 p2 h1 h2 s3
  have HC := ac_chk0 l d e i b p h s hc
  have HB := ac_begin n s x hn2 ⟨s1, s2⟩ hx
  obtain ⟨q, hq⟩ : ∃ q, s + n / 2 + x % (n - n / 2) = q := ⟨_, rfl⟩
  rw [hq] at HB hy ⊢
  have HQ := ac_quiet l d e n s q 0
  have HG := ac_great l d e hg
  refine acalls_law Try.func35 rfl rfl rfl ?_
  repeat' first | intro h1 | refine st (v := .int .i64 n) (h := by (rw [← hn]; apply ok_min; rfl; rfl)) ?_ | refine sd (v := .int .i64 n) (h := by (rw [← hn]; apply ok_min; rfl; rfl)) ?_ | refine st ?_ | refine st_call HC ?_ | refine st_call HB ?_ | refine st_call HQ ?_ | refine st_call HG ?_ | refine sd_call HC ?_ | refine sd_call HB ?_ | refine sd_call HQ ?_ | refine sd_call HG ?_ | refine stm ?_ | refine Ja ?_ | refine Jb ?_ | refine Jc ?_ | refine Jd ?_ | refine Je ?_ | refine Jf ?_ | refine Jg ?_ | refine Jh ?_ ?_ | refine Ji ?_ ?_ | refine Jj ?_ ?_ | refine run_nil ?_ | refine sd ?_ | refine sdl ?_ | refine sdm (n := 1) ?_ | refine sdm ?_ | refine sdb ?_ | refine Jk ?_ | refine Jl ?_ | refine Jm ?_ | refine Jn ?_ ?_ | refine Jo ?_ ?_ | refine Jp ?_ ?_ | refine rund_nil ?_ | refine Jz ?_ | refine Jw ?_ | refine Jx (id := 5) [0,1,3,0,8,31,0,0,255,511] 9 ?_ | refine Jx (id := 6) [0,0,0,4,14,30,62,62,254,510,511,2047,4095] 10 ?_ | refine aw_block ?_ | refine Jq ?_ | refine Jr ?_ | refine Js ?_ | refine Jt ?_ | refine Ju ?_ ?_ | refine Jv ?_ ?_ | refine Jy ?_ | refine aw_exit ?_ | refine aw_ret ?_ | refine pp_ret ?_ | refine pp_normal ?_
  all_goals first | (exfalso; omega) | rfl | (show Value.tuple _ = Value.tuple _; congr 3; rw [← hy]; first | (congr 1; first | exact (decide_eq_false (by omega)).symm | exact (decide_eq_true (by omega)).symm | exact decide_eq_decide.2 (by omega))) | (rw [← hy]; simp [retOf]; omega)
set_option maxHeartbeats 1000000 in
theorem ac_hear_eq (l d e i b p h s x h' : Int) (hc : cE l d e ⟨i, b, p, h⟩ s = 0) (hh : min (h + 1) 1048576 = h') : ACalls Try.prog 36 [.agg #[.int .i64 l, .int .i64 d, .int .i64 e], .agg #[.int .i64 i, .int .i64 b, .int .i64 p, .int .i64 h], .bool true, .int .i64 s, .int .u32 x] [] (.tuple #[.agg #[.int .i64 i, .int .i64 b, .int .i64 p, .int .i64 h'], .int .i64 0]) [] := by
  have o := cE_out hc
  obtain ⟨hg, l1, l2, d1, d2, e1, e2, i1, i2, b1, b2, p1, p2, h1, h2, s1, s2, s3⟩ := o
  dsimp only at i1 i2 b1 b2 p1 p2 h1 h2 s3
  have HC := ac_chk0 l d e i b p h s hc
  refine acalls_law Try.func36 rfl rfl rfl ?_
  repeat' first | intro h1 | refine st (v := .int .i64 h') (h := by (rw [← hh]; apply ok_min; rfl; rfl)) ?_ | refine st ?_ | refine st_call HC ?_ | refine sd_call HC ?_ | refine stm ?_ | refine Ja ?_ | refine Jb ?_ | refine Jc ?_ | refine Jd ?_ | refine Je ?_ | refine Jf ?_ | refine Jg ?_ | refine Jh ?_ ?_ | refine Ji ?_ ?_ | refine Jj ?_ ?_ | refine run_nil ?_ | refine Jz ?_ | refine Jw ?_ | refine aw_block ?_ | refine Jq ?_ | refine Jr ?_ | refine Js ?_ | refine Jt ?_ | refine Ju ?_ ?_ | refine Jv ?_ ?_ | refine Jy ?_ | refine aw_exit ?_ | refine aw_ret ?_ | refine pp_ret ?_ | refine pp_normal ?_
  all_goals first | rfl | (exfalso; omega) | (exfalso; simp only [Bool.not_eq_true', Bool.not_eq_false', decide_eq_true_eq, decide_eq_false_iff_not, Bool.not_false, Bool.not_true] at *; omega)
set_option maxHeartbeats 1000000 in
theorem ac_hear_new (l d e i b p h s x : Int) (hx : 0 ≤ x ∧ x ≤ 4294967295) (hc : cE l d e ⟨i, b, p, h⟩ s = 0) (hi : l < i) : ACalls Try.prog 36 [.agg #[.int .i64 l, .int .i64 d, .int .i64 e], .agg #[.int .i64 i, .int .i64 b, .int .i64 p, .int .i64 h], .bool false, .int .i64 s, .int .u32 x] [] (.tuple #[.agg #[.int .i64 l, .int .i64 s, .int .i64 (s + l / 2 + x % (l - l / 2)), .int .i64 0], .int .i64 0]) [] := by
  have o := cE_out hc
  obtain ⟨hg, l1, l2, d1, d2, e1, e2, i1, i2, b1, b2, p1, p2, h1, h2, s1, s2, s3⟩ := o
  dsimp only at i1 i2 b1 b2 p1 p2 h1 h2 s3
  have HC := ac_chk0 l d e i b p h s hc
  have HB := ac_begin l s x (by omega) ⟨s1, s2⟩ hx
  refine acalls_law Try.func36 rfl rfl rfl ?_
  repeat' first | intro h1 | refine st ?_ | refine st_call HC ?_ | refine st_call HB ?_ | refine sd_call HC ?_ | refine sd_call HB ?_ | refine stm ?_ | refine Ja ?_ | refine Jb ?_ | refine Jc ?_ | refine Jd ?_ | refine Je ?_ | refine Jf ?_ | refine Jg ?_ | refine Jh ?_ ?_ | refine Ji ?_ ?_ | refine Jj ?_ ?_ | refine run_nil ?_ | refine Jz ?_ | refine Jw ?_ | refine aw_block ?_ | refine Jq ?_ | refine Jr ?_ | refine Js ?_ | refine Jt ?_ | refine Ju ?_ ?_ | refine Jv ?_ ?_ | refine Jy ?_ | refine aw_exit ?_ | refine aw_ret ?_ | refine pp_ret ?_ | refine pp_normal ?_
  all_goals first | rfl | (exfalso; omega) | (exfalso; simp only [Bool.not_eq_true', Bool.not_eq_false', decide_eq_true_eq, decide_eq_false_iff_not, Bool.not_false, Bool.not_true] at *; omega)
set_option maxHeartbeats 1000000 in
theorem ac_hear_keep (l d e i b p h s x : Int) (hc : cE l d e ⟨i, b, p, h⟩ s = 0) (hi : ¬ l < i) : ACalls Try.prog 36 [.agg #[.int .i64 l, .int .i64 d, .int .i64 e], .agg #[.int .i64 i, .int .i64 b, .int .i64 p, .int .i64 h], .bool false, .int .i64 s, .int .u32 x] [] (.tuple #[.agg #[.int .i64 i, .int .i64 b, .int .i64 p, .int .i64 h], .int .i64 0]) [] := by
  have o := cE_out hc
  obtain ⟨hg, l1, l2, d1, d2, e1, e2, i1, i2, b1, b2, p1, p2, h1, h2, s1, s2, s3⟩ := o
  dsimp only at i1 i2 b1 b2 p1 p2 h1 h2 s3
  have HC := ac_chk0 l d e i b p h s hc
  refine acalls_law Try.func36 rfl rfl rfl ?_
  repeat' first | intro h1 | refine st ?_ | refine st_call HC ?_ | refine sd_call HC ?_ | refine stm ?_ | refine Ja ?_ | refine Jb ?_ | refine Jc ?_ | refine Jd ?_ | refine Je ?_ | refine Jf ?_ | refine Jg ?_ | refine Jh ?_ ?_ | refine Ji ?_ ?_ | refine Jj ?_ ?_ | refine run_nil ?_ | refine Jz ?_ | refine Jw ?_ | refine aw_block ?_ | refine Jq ?_ | refine Jr ?_ | refine Js ?_ | refine Jt ?_ | refine Ju ?_ ?_ | refine Jv ?_ ?_ | refine Jy ?_ | refine aw_exit ?_ | refine aw_ret ?_ | refine pp_ret ?_ | refine pp_normal ?_
  all_goals first | rfl | (exfalso; omega) | (exfalso; simp only [Bool.not_eq_true', Bool.not_eq_false', decide_eq_true_eq, decide_eq_false_iff_not, Bool.not_false, Bool.not_true] at *; omega)
end Go.Proofs.Ytekkdoaakilafaa
