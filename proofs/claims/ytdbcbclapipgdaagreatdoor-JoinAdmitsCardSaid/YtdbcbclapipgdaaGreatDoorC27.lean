/- Join: members checked (reference). -/
import Derived.Test.YtdbcbclapipgdaaGreatDoorVO
import Derived.Test.YtdbcbclapipgdaaGreatDoorJ
import Derived.Test.YtdbcbclapipgdaaGreatDoorC25
import Derived.Test.YtdbcbclapipgdaaGreatDoorC26
set_option linter.unusedVariables false
set_option linter.unusedSimpArgs false
namespace Go.Proofs.YtdbcbclapipgdaaGreatDoor
open Go Av
set_option maxRecDepth 20000
set_option maxHeartbeats 16000000 in
theorem rm_b_tz {Q : Exit → Slots → Mem → Prop} (L : List Mb) (n i : Nat) (nm sec : ByteArray) (nd no : Int) (hn : L.length = n) (hb : n ≤ 1000000) (hi : i < n) (hq : L[i]? = some ⟨nm, sec, nd, no⟩) (hb0 : nmB nm = true) (hb1 : scB sec = true) (h1 : 0 ≤ no ∧ no ≤ 2147483647) (h0 : i = 0) (hn1 : nd ≠ -1) (h3 : 1 ≤ nd ∧ nd ≤ 31) (h4 : 1 ≤ no) (hk : tkB L i nd = true) (hR : ∀ σ m, PostP Tryz.prog Tryz.f22.results.toList (.int .i64 1) .ret σ m → Q .ret σ m) : AW Tryz.prog Tryz.f22.ntmps 1 (loopAt Tryz.f22 0) (ThenA (fun σ1 m1 => ∃ y : Ri, Fits 1 ([(0, .slice (some ⟨0, 0, none⟩) n n), (3, .int .i64 y.i)]) ([some ⟨L.flatMap mbC, false, 4⟩]) σ1 m1 ∧ (y.i ≤ n ∧ gdN L y.i = true) ∧ n - y.i < n - i) Q) ([(0, .slice (some ⟨0, 0, none⟩) n n), (3, .int .i64 i)]) ([some ⟨L.flatMap mbC, false, 4⟩]) := by
  have HN := ac_rName nm true hb0
  have HS := ac_rSecret sec true hb1
  have HW : ACalls Tryz.prog 73 [.int .i64 nd] [] (.bool true) [] := by have h := ac_member nd; rwa [decide_eq_true h3] at h
  repeat' first | intro h1 | intro h1 | refine st (h := ok_not_dec2 rfl) ?_ | refine sd (h := ok_not_dec2 rfl) ?_ | refine st (h := ok_load_rowsE (f := mbC) (cs := [.string nm, .string sec, .int .i64 nd, .int .i64 no]) i (fun _ => rfl) hq rfl rfl rfl rfl (by omega)) ?_ | refine sdl (h := ok_load_rowsE (f := mbC) (cs := [.string nm, .string sec, .int .i64 nd, .int .i64 no]) i (fun _ => rfl) hq rfl rfl rfl rfl (by omega)) ?_ | refine sd (h := ok_load_rowsE (f := mbC) (cs := [.string nm, .string sec, .int .i64 nd, .int .i64 no]) i (fun _ => rfl) hq rfl rfl rfl rfl (by omega)) ?_ | refine st ?_ | refine st_call (HN) ?_ | refine st_call (HS) ?_ | refine st_call (HW) ?_ | refine sd_call (HN) ?_ | refine sd_call (HS) ?_ | refine sd_call (HW) ?_ | refine stm ?_ | refine Ja ?_ | refine Jb ?_ | refine Jc ?_ | refine Jd ?_ | refine Je ?_ | refine Jf ?_ | refine Jg ?_ | refine Jh ?_ ?_ | refine Ji ?_ ?_ | refine Jj ?_ ?_ | refine run_nil ?_ | refine sd ?_ | refine sdl ?_ | refine sdm (n := 1) ?_ | refine sdm ?_ | refine sdb ?_ | refine Jk ?_ | refine Jl ?_ | refine Jm ?_ | refine Jn ?_ ?_ | refine Jo ?_ ?_ | refine Jp ?_ ?_ | refine rund_nil ?_ | refine Jz ?_ | refine Jw ?_ | refine Jx (id := 5) [0,1,3,7,15,31,63,127,255,511,1023,2047,4095,8191,16383,32767,65535,131071,262143,524287,1048575,2097151,4194303,8388607,16777215,33554431,67108863,134217727,268435455,536870911,1073741823,2147483647,4294967295,8589934591,17179869183,34359738367,68719476735,137438953471,274877906943,549755813887,1099511627775,1099511627775,3298534883327,8796093022207,17592186044415,35184372088831,1099511627775,71468255805439,281474976710655,562949953421311,1125899906842623] 51 ?_ | refine Jx (id := 10) [0,1,3,7,15,15,63,127,255,15,527,2047,4095] 13 ?_ | refine aw_block ?_ | refine Jq ?_ | refine Jr ?_ | refine Js ?_ | refine Jt ?_ | refine Ju ?_ ?_ | refine Jv ?_ ?_ | refine Jy ?_ | refine aw_exit ?_ | refine aw_ret ?_ | refine pp_ret ?_ | refine pp_normal ?_
  all_goals try (exfalso; omega)
  refine aw_loopg
    (S := fun y : Ri => [(0, .slice (some ⟨0, 0, none⟩) n n), (3, .int .i64 i), (4, .pointer (some ⟨1, 0, none⟩)), (5, .int .i64 y.i)])
    (B := fun y : Ri => [some ⟨L.flatMap mbC, false, 4⟩, some ⟨[.string nm, .string sec, .int .i64 nd, .int .i64 no], true, 1⟩])
    (R := fun y : Ri => y.i ≤ i ∧ tkB L y.i nd = false)
    (μ := fun y : Ri => i - y.i) ⟨0⟩ (fitsD [0, 1]) ⟨Nat.zero_le _, rfl⟩ ?_
  rintro ⟨j⟩ ⟨g1, g3⟩
  dsimp only at g1 g3 ⊢
  by_cases hji : j < i
  · obtain ⟨⟨nmj, secj, ndj, noj⟩, hj⟩ : ∃ m, L[j]? = some m := ⟨_, List.getElem?_eq_getElem (by omega)⟩
    have hnj := ndA_at hj
    dsimp only at hnj
    by_cases hne : ndj = nd
    · skip
      repeat' first | intro h1 | intro h1 | refine st (h := ok_not_dec2 rfl) ?_ | refine sd (h := ok_not_dec2 rfl) ?_ | refine sdl (v := .int .i64 ndj) (h := ok_load_rowcellE (f := mbC) (n := 4) j 2 (fun _ => rfl) hj rfl (by omega) rfl rfl rfl (by omega)) ?_ | refine sd (v := .int .i64 ndj) (h := ok_load_rowcellE (f := mbC) (n := 4) j 2 (fun _ => rfl) hj rfl (by omega) rfl rfl rfl (by omega)) ?_ | refine st (v := .int .i64 ndj) (h := ok_load_rowcellE (f := mbC) (n := 4) j 2 (fun _ => rfl) hj rfl (by omega) rfl rfl rfl (by omega)) ?_ | refine st ?_ | refine hR _ _ ?_ | refine stm ?_ | refine Ja ?_ | refine Jb ?_ | refine Jc ?_ | refine Jd ?_ | refine Je ?_ | refine Jf ?_ | refine Jg ?_ | refine Jh ?_ ?_ | refine Ji ?_ ?_ | refine Jj ?_ ?_ | refine run_nil ?_ | refine sd ?_ | refine sdl ?_ | refine sdm (n := 1) ?_ | refine sdm ?_ | refine sdb ?_ | refine Jk ?_ | refine Jl ?_ | refine Jm ?_ | refine Jn ?_ ?_ | refine Jo ?_ ?_ | refine Jp ?_ ?_ | refine rund_nil ?_ | refine Jz ?_ | refine Jw ?_ | refine Jx (id := 5) [0,1,3,7,15,31,63,127,255,511,1023,2047,4095,8191,16383,32767,65535,131071,262143,524287,1048575,2097151,4194303,8388607,16777215,33554431,67108863,134217727,268435455,536870911,1073741823,2147483647,4294967295,8589934591,17179869183,34359738367,68719476735,137438953471,274877906943,549755813887,1099511627775,1099511627775,3298534883327,8796093022207,17592186044415,35184372088831,1099511627775,71468255805439,281474976710655,562949953421311,1125899906842623] 51 ?_ | refine Jx (id := 10) [0,1,3,7,15,15,63,127,255,15,527,2047,4095] 13 ?_ | refine aw_block ?_ | refine Jq ?_ | refine Jr ?_ | refine Js ?_ | refine Jt ?_ | refine Ju ?_ ?_ | refine Jv ?_ ?_ | refine Jy ?_ | refine aw_exit ?_ | refine aw_ret ?_ | refine pp_ret ?_ | refine pp_normal ?_
      all_goals first
        | rfl
        | (exfalso; omega)
        | (simp [retOf]; done)
        | (exfalso; simp_all; done)
        | (exfalso; simp only [Bool.not_eq_true', Bool.not_eq_false', decide_eq_true_eq, decide_eq_false_iff_not, Bool.not_false, Bool.not_true] at *; omega)
    · have g4 := tk_step (L := L) (j := j) (x := nd) g3 (by rw [hnj]; exact hne)
      repeat' first | intro h1 | intro h1 | refine st (h := ok_not_dec2 rfl) ?_ | refine sd (h := ok_not_dec2 rfl) ?_ | refine sdl (v := .int .i64 ndj) (h := ok_load_rowcellE (f := mbC) (n := 4) j 2 (fun _ => rfl) hj rfl (by omega) rfl rfl rfl (by omega)) ?_ | refine sd (v := .int .i64 ndj) (h := ok_load_rowcellE (f := mbC) (n := 4) j 2 (fun _ => rfl) hj rfl (by omega) rfl rfl rfl (by omega)) ?_ | refine st (v := .int .i64 ndj) (h := ok_load_rowcellE (f := mbC) (n := 4) j 2 (fun _ => rfl) hj rfl (by omega) rfl rfl rfl (by omega)) ?_ | refine st ?_ | refine stm ?_ | refine Ja ?_ | refine Jb ?_ | refine Jc ?_ | refine Jd ?_ | refine Je ?_ | refine Jf ?_ | refine Jg ?_ | refine Jh ?_ ?_ | refine Ji ?_ ?_ | refine Jj ?_ ?_ | refine run_nil ?_ | refine sd ?_ | refine sdl ?_ | refine sdm (n := 1) ?_ | refine sdm ?_ | refine sdb ?_ | refine Jk ?_ | refine Jl ?_ | refine Jm ?_ | refine Jn ?_ ?_ | refine Jo ?_ ?_ | refine Jp ?_ ?_ | refine rund_nil ?_ | refine Jz ?_ | refine Jw ?_ | refine Jx (id := 5) [0,1,3,7,15,31,63,127,255,511,1023,2047,4095,8191,16383,32767,65535,131071,262143,524287,1048575,2097151,4194303,8388607,16777215,33554431,67108863,134217727,268435455,536870911,1073741823,2147483647,4294967295,8589934591,17179869183,34359738367,68719476735,137438953471,274877906943,549755813887,1099511627775,1099511627775,3298534883327,8796093022207,17592186044415,35184372088831,1099511627775,71468255805439,281474976710655,562949953421311,1125899906842623] 51 ?_ | refine Jx (id := 10) [0,1,3,7,15,15,63,127,255,15,527,2047,4095] 13 ?_ | refine aw_block ?_ | refine Jq ?_ | refine Jr ?_ | refine Js ?_ | refine Jt ?_ | refine Ju ?_ ?_ | refine Jv ?_ ?_ | refine Jy ?_ | refine aw_exit ?_ | refine aw_ret ?_ | refine pp_ret ?_ | refine pp_normal ?_
      all_goals first | exact Exists.intro ⟨j + 1⟩ ⟨fitsD [0, 1], ⟨hji, g4⟩, by dsimp only; omega⟩ | (exfalso; omega) | (exfalso; simp only [Bool.not_false, Bool.not_true, Bool.not_eq_true', Bool.not_eq_false', Bool.not_not, decide_eq_false_iff_not, decide_eq_true_eq] at h1; omega) | skip
  · obtain rfl : j = i := by omega
    exact absurd hk (by rw [g3]; decide)
set_option maxHeartbeats 16000000 in
theorem rm_b_tp {Q : Exit → Slots → Mem → Prop} (L : List Mb) (n i : Nat) (nm sec : ByteArray) (nd no : Int) (hn : L.length = n) (hb : n ≤ 1000000) (hi : i < n) (hq : L[i]? = some ⟨nm, sec, nd, no⟩) (hb0 : nmB nm = true) (hb1 : scB sec = true) (h1 : 0 ≤ no ∧ no ≤ 2147483647) (h0 : i ≠ 0) (nm' sec' : ByteArray) (nd' no' : Int) (hp : L[i - 1]? = some ⟨nm', sec', nd', no'⟩) (hlt : ltS nm' nm = true) (hn1 : nd ≠ -1) (h3 : 1 ≤ nd ∧ nd ≤ 31) (h4 : 1 ≤ no) (hk : tkB L i nd = true) (hR : ∀ σ m, PostP Tryz.prog Tryz.f22.results.toList (.int .i64 1) .ret σ m → Q .ret σ m) : AW Tryz.prog Tryz.f22.ntmps 1 (loopAt Tryz.f22 0) (ThenA (fun σ1 m1 => ∃ y : Ri, Fits 1 ([(0, .slice (some ⟨0, 0, none⟩) n n), (3, .int .i64 y.i)]) ([some ⟨L.flatMap mbC, false, 4⟩]) σ1 m1 ∧ (y.i ≤ n ∧ gdN L y.i = true) ∧ n - y.i < n - i) Q) ([(0, .slice (some ⟨0, 0, none⟩) n n), (3, .int .i64 i)]) ([some ⟨L.flatMap mbC, false, 4⟩]) := by
  have HN := ac_rName nm true hb0
  have HS := ac_rSecret sec true hb1
  have HW : ACalls Tryz.prog 73 [.int .i64 nd] [] (.bool true) [] := by have h := ac_member nd; rwa [decide_eq_true h3] at h
  repeat' first | intro h1 | intro h1 | refine st (h := ok_not_dec2 rfl) ?_ | refine sd (h := ok_not_dec2 rfl) ?_ | refine st (h := ok_load_rowsE (f := mbC) (cs := [.string nm, .string sec, .int .i64 nd, .int .i64 no]) i (fun _ => rfl) hq rfl rfl rfl rfl (by omega)) ?_ | refine sdl (h := ok_load_rowsE (f := mbC) (cs := [.string nm, .string sec, .int .i64 nd, .int .i64 no]) i (fun _ => rfl) hq rfl rfl rfl rfl (by omega)) ?_ | refine sd (h := ok_load_rowsE (f := mbC) (cs := [.string nm, .string sec, .int .i64 nd, .int .i64 no]) i (fun _ => rfl) hq rfl rfl rfl rfl (by omega)) ?_ | refine sdl (v := .string nm') (h := ok_load_rowcellE (f := mbC) (n := 4) (i - 1) 0 (fun _ => rfl) hp rfl (by omega) rfl rfl rfl (by omega)) ?_ | refine sd (v := .string nm') (h := ok_load_rowcellE (f := mbC) (n := 4) (i - 1) 0 (fun _ => rfl) hp rfl (by omega) rfl rfl rfl (by omega)) ?_ | refine st (v := .string nm') (h := ok_load_rowcellE (f := mbC) (n := 4) (i - 1) 0 (fun _ => rfl) hp rfl (by omega) rfl rfl rfl (by omega)) ?_ | refine sd (h := ok_str_geq rfl rfl hlt) ?_ | refine st (h := ok_str_geq rfl rfl hlt) ?_ | refine st ?_ | refine st_call (HN) ?_ | refine st_call (HS) ?_ | refine st_call (HW) ?_ | refine sd_call (HN) ?_ | refine sd_call (HS) ?_ | refine sd_call (HW) ?_ | refine stm ?_ | refine Ja ?_ | refine Jb ?_ | refine Jc ?_ | refine Jd ?_ | refine Je ?_ | refine Jf ?_ | refine Jg ?_ | refine Jh ?_ ?_ | refine Ji ?_ ?_ | refine Jj ?_ ?_ | refine run_nil ?_ | refine sd ?_ | refine sdl ?_ | refine sdm (n := 1) ?_ | refine sdm ?_ | refine sdb ?_ | refine Jk ?_ | refine Jl ?_ | refine Jm ?_ | refine Jn ?_ ?_ | refine Jo ?_ ?_ | refine Jp ?_ ?_ | refine rund_nil ?_ | refine Jz ?_ | refine Jw ?_ | refine Jx (id := 5) [0,1,3,7,15,31,63,127,255,511,1023,2047,4095,8191,16383,32767,65535,131071,262143,524287,1048575,2097151,4194303,8388607,16777215,33554431,67108863,134217727,268435455,536870911,1073741823,2147483647,4294967295,8589934591,17179869183,34359738367,68719476735,137438953471,274877906943,549755813887,1099511627775,1099511627775,3298534883327,8796093022207,17592186044415,35184372088831,1099511627775,71468255805439,281474976710655,562949953421311,1125899906842623] 51 ?_ | refine Jx (id := 10) [0,1,3,7,15,15,63,127,255,15,527,2047,4095] 13 ?_ | refine aw_block ?_ | refine Jq ?_ | refine Jr ?_ | refine Js ?_ | refine Jt ?_ | refine Ju ?_ ?_ | refine Jv ?_ ?_ | refine Jy ?_ | refine aw_exit ?_ | refine aw_ret ?_ | refine pp_ret ?_ | refine pp_normal ?_
  all_goals try (exfalso; omega)
  refine aw_loopg
    (S := fun y : Ri => [(0, .slice (some ⟨0, 0, none⟩) n n), (3, .int .i64 i), (4, .pointer (some ⟨1, 0, none⟩)), (5, .int .i64 y.i)])
    (B := fun y : Ri => [some ⟨L.flatMap mbC, false, 4⟩, some ⟨[.string nm, .string sec, .int .i64 nd, .int .i64 no], true, 1⟩])
    (R := fun y : Ri => y.i ≤ i ∧ tkB L y.i nd = false)
    (μ := fun y : Ri => i - y.i) ⟨0⟩ (fitsD [0, 1]) ⟨Nat.zero_le _, rfl⟩ ?_
  rintro ⟨j⟩ ⟨g1, g3⟩
  dsimp only at g1 g3 ⊢
  by_cases hji : j < i
  · obtain ⟨⟨nmj, secj, ndj, noj⟩, hj⟩ : ∃ m, L[j]? = some m := ⟨_, List.getElem?_eq_getElem (by omega)⟩
    have hnj := ndA_at hj
    dsimp only at hnj
    by_cases hne : ndj = nd
    · skip
      repeat' first | intro h1 | intro h1 | refine st (h := ok_not_dec2 rfl) ?_ | refine sd (h := ok_not_dec2 rfl) ?_ | refine sdl (v := .int .i64 ndj) (h := ok_load_rowcellE (f := mbC) (n := 4) j 2 (fun _ => rfl) hj rfl (by omega) rfl rfl rfl (by omega)) ?_ | refine sd (v := .int .i64 ndj) (h := ok_load_rowcellE (f := mbC) (n := 4) j 2 (fun _ => rfl) hj rfl (by omega) rfl rfl rfl (by omega)) ?_ | refine st (v := .int .i64 ndj) (h := ok_load_rowcellE (f := mbC) (n := 4) j 2 (fun _ => rfl) hj rfl (by omega) rfl rfl rfl (by omega)) ?_ | refine st ?_ | refine hR _ _ ?_ | refine stm ?_ | refine Ja ?_ | refine Jb ?_ | refine Jc ?_ | refine Jd ?_ | refine Je ?_ | refine Jf ?_ | refine Jg ?_ | refine Jh ?_ ?_ | refine Ji ?_ ?_ | refine Jj ?_ ?_ | refine run_nil ?_ | refine sd ?_ | refine sdl ?_ | refine sdm (n := 1) ?_ | refine sdm ?_ | refine sdb ?_ | refine Jk ?_ | refine Jl ?_ | refine Jm ?_ | refine Jn ?_ ?_ | refine Jo ?_ ?_ | refine Jp ?_ ?_ | refine rund_nil ?_ | refine Jz ?_ | refine Jw ?_ | refine Jx (id := 5) [0,1,3,7,15,31,63,127,255,511,1023,2047,4095,8191,16383,32767,65535,131071,262143,524287,1048575,2097151,4194303,8388607,16777215,33554431,67108863,134217727,268435455,536870911,1073741823,2147483647,4294967295,8589934591,17179869183,34359738367,68719476735,137438953471,274877906943,549755813887,1099511627775,1099511627775,3298534883327,8796093022207,17592186044415,35184372088831,1099511627775,71468255805439,281474976710655,562949953421311,1125899906842623] 51 ?_ | refine Jx (id := 10) [0,1,3,7,15,15,63,127,255,15,527,2047,4095] 13 ?_ | refine aw_block ?_ | refine Jq ?_ | refine Jr ?_ | refine Js ?_ | refine Jt ?_ | refine Ju ?_ ?_ | refine Jv ?_ ?_ | refine Jy ?_ | refine aw_exit ?_ | refine aw_ret ?_ | refine pp_ret ?_ | refine pp_normal ?_
      all_goals first
        | rfl
        | (exfalso; omega)
        | (simp [retOf]; done)
        | (exfalso; simp_all; done)
        | (exfalso; simp only [Bool.not_eq_true', Bool.not_eq_false', decide_eq_true_eq, decide_eq_false_iff_not, Bool.not_false, Bool.not_true] at *; omega)
    · have g4 := tk_step (L := L) (j := j) (x := nd) g3 (by rw [hnj]; exact hne)
      repeat' first | intro h1 | intro h1 | refine st (h := ok_not_dec2 rfl) ?_ | refine sd (h := ok_not_dec2 rfl) ?_ | refine sdl (v := .int .i64 ndj) (h := ok_load_rowcellE (f := mbC) (n := 4) j 2 (fun _ => rfl) hj rfl (by omega) rfl rfl rfl (by omega)) ?_ | refine sd (v := .int .i64 ndj) (h := ok_load_rowcellE (f := mbC) (n := 4) j 2 (fun _ => rfl) hj rfl (by omega) rfl rfl rfl (by omega)) ?_ | refine st (v := .int .i64 ndj) (h := ok_load_rowcellE (f := mbC) (n := 4) j 2 (fun _ => rfl) hj rfl (by omega) rfl rfl rfl (by omega)) ?_ | refine st ?_ | refine stm ?_ | refine Ja ?_ | refine Jb ?_ | refine Jc ?_ | refine Jd ?_ | refine Je ?_ | refine Jf ?_ | refine Jg ?_ | refine Jh ?_ ?_ | refine Ji ?_ ?_ | refine Jj ?_ ?_ | refine run_nil ?_ | refine sd ?_ | refine sdl ?_ | refine sdm (n := 1) ?_ | refine sdm ?_ | refine sdb ?_ | refine Jk ?_ | refine Jl ?_ | refine Jm ?_ | refine Jn ?_ ?_ | refine Jo ?_ ?_ | refine Jp ?_ ?_ | refine rund_nil ?_ | refine Jz ?_ | refine Jw ?_ | refine Jx (id := 5) [0,1,3,7,15,31,63,127,255,511,1023,2047,4095,8191,16383,32767,65535,131071,262143,524287,1048575,2097151,4194303,8388607,16777215,33554431,67108863,134217727,268435455,536870911,1073741823,2147483647,4294967295,8589934591,17179869183,34359738367,68719476735,137438953471,274877906943,549755813887,1099511627775,1099511627775,3298534883327,8796093022207,17592186044415,35184372088831,1099511627775,71468255805439,281474976710655,562949953421311,1125899906842623] 51 ?_ | refine Jx (id := 10) [0,1,3,7,15,15,63,127,255,15,527,2047,4095] 13 ?_ | refine aw_block ?_ | refine Jq ?_ | refine Jr ?_ | refine Js ?_ | refine Jt ?_ | refine Ju ?_ ?_ | refine Jv ?_ ?_ | refine Jy ?_ | refine aw_exit ?_ | refine aw_ret ?_ | refine pp_ret ?_ | refine pp_normal ?_
      all_goals first | exact Exists.intro ⟨j + 1⟩ ⟨fitsD [0, 1], ⟨hji, g4⟩, by dsimp only; omega⟩ | (exfalso; omega) | (exfalso; simp only [Bool.not_false, Bool.not_true, Bool.not_eq_true', Bool.not_eq_false', Bool.not_not, decide_eq_false_iff_not, decide_eq_true_eq] at h1; omega) | skip
  · obtain rfl : j = i := by omega
    exact absurd hk (by rw [g3]; decide)
theorem rm_bad {Q : Exit → Slots → Mem → Prop} (L : List Mb) (n i : Nat) (nm sec : ByteArray) (nd no : Int) (hn : L.length = n) (hb : n ≤ 1000000) (hi : i < n) (hq : L[i]? = some ⟨nm, sec, nd, no⟩) (hgd : gdB L i ⟨nm, sec, nd, no⟩ = false) (hR : ∀ σ m, PostP Tryz.prog Tryz.f22.results.toList (.int .i64 1) .ret σ m → Q .ret σ m) : AW Tryz.prog Tryz.f22.ntmps 1 (loopAt Tryz.f22 0) (ThenA (fun σ1 m1 => ∃ y : Ri, Fits 1 ([(0, .slice (some ⟨0, 0, none⟩) n n), (3, .int .i64 y.i)]) ([some ⟨L.flatMap mbC, false, 4⟩]) σ1 m1 ∧ (y.i ≤ n ∧ gdN L y.i = true) ∧ n - y.i < n - i) Q) ([(0, .slice (some ⟨0, 0, none⟩) n n), (3, .int .i64 i)]) ([some ⟨L.flatMap mbC, false, 4⟩]) := by
  unfold gdB mb1 at hgd
  dsimp only at hgd
  cases ha : nmB nm with
  | false => exact rm_b_a L n i nm sec nd no hn hb hi hq ha hR
  | true =>
  cases hc : scB sec with
  | false => exact rm_b_c L n i nm sec nd no hn hb hi hq ha hc hR
  | true =>
  rw [ha, hc] at hgd
  simp only [Bool.true_and] at hgd
  by_cases h1 : 0 ≤ no ∧ no ≤ 2147483647
  case neg => exact rm_b_n L n i nm sec nd no hn hb hi hq ha hc h1 hR
  by_cases hn1 : nd = -1
  · by_cases h0 : i = 0
    · rw [decide_eq_true ⟨h1, .inl hn1⟩, decide_eq_true hn1, decide_eq_true h0] at hgd
      simp at hgd
    · obtain ⟨⟨nm', sec', nd', no'⟩, hp⟩ : ∃ p, L[i - 1]? = some p := ⟨_, List.getElem?_eq_getElem (by omega)⟩
      rw [decide_eq_true ⟨h1, .inl hn1⟩, decide_eq_true hn1, decide_eq_false h0, nmAt_at hp] at hgd
      simp at hgd
      exact rm_b_on L n i nm sec nd no hn hb hi hq ha hc h1 hn1 h0 nm' sec' nd' no' hp hgd hR
  by_cases h3 : 1 ≤ nd ∧ nd ≤ 31
  case neg => exact rm_b_d L n i nm sec nd no hn hb hi hq ha hc h1 hn1 h3 hR
  by_cases h4 : 1 ≤ no
  case neg => exact rm_b_e L n i nm sec nd no hn hb hi hq ha hc h1 hn1 h3 (by omega) hR
  rw [decide_eq_true ⟨h1, .inr ⟨h3, h4⟩⟩, decide_eq_false hn1] at hgd
  by_cases h0 : i = 0
  · rw [decide_eq_true h0] at hgd
    simp only [Bool.true_and, Bool.false_or, Bool.true_or] at hgd
    exact rm_b_tz L n i nm sec nd no hn hb hi hq ha hc h1 h0 hn1 h3 h4 (by simpa using hgd) hR
  obtain ⟨⟨nm', sec', nd', no'⟩, hp⟩ : ∃ p, L[i - 1]? = some p := ⟨_, List.getElem?_eq_getElem (by omega)⟩
  rw [decide_eq_false h0, Bool.false_or, nmAt_at hp] at hgd
  dsimp only at hgd
  cases hlt : ltS nm' nm with
  | false => exact rm_b_ot L n i nm sec nd no hn hb hi hq ha hc h1 hn1 h3 h4 h0 nm' sec' nd' no' hp hlt hR
  | true =>
  rw [hlt] at hgd
  simp only [Bool.true_and, Bool.false_or] at hgd
  exact rm_b_tp L n i nm sec nd no hn hb hi hq ha hc h1 h0 nm' sec' nd' no' hp hlt hn1 h3 h4 (by simpa using hgd) hR
end Go.Proofs.YtdbcbclapipgdaaGreatDoor
