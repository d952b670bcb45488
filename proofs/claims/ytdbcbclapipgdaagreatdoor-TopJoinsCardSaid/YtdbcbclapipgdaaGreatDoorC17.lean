/- Join: members checked. -/
import Derived.Test.YtdbcbclapipgdaaGreatDoorVO
import Derived.Test.YtdbcbclapipgdaaGreatDoorJ
import Derived.Test.YtdbcbclapipgdaaGreatDoorC14
set_option linter.unusedVariables false
set_option linter.unusedSimpArgs false
namespace Go.Proofs.YtdbcbclapipgdaaGreatDoor
open Go Av
set_option maxRecDepth 20000
set_option maxHeartbeats 16000000 in
theorem jm_b_tz {Q : Exit → Slots → Mem → Prop} (L : List Mb) (n i : Nat) (nm sec : ByteArray) (nd no : Int) (hn : L.length = n) (hb : n ≤ 1000000) (hi : i < n) (hq : L[i]? = some ⟨nm, sec, nd, no⟩) (g2 : gdN L i = true) (hb0 : nmB nm = true) (hb1 : scB sec = true) (h1 : 0 ≤ no ∧ no ≤ 2147483647) (h0 : i = 0) (hn1 : nd ≠ -1) (h3 : 1 ≤ nd ∧ nd ≤ 31) (h4 : 1 ≤ no) (hk : tkB L i nd = true) (hR : ∀ σ m, PostP Tryz.prog Tryz.f21.results.toList (.int .i64 1) .ret σ m → Q .ret σ m) : AW Tryz.prog Tryz.f21.ntmps 1 (loopAt Tryz.f21 0) (ThenA (fun σ1 m1 => ∃ y : Mi, Fits 1 ([(0, .slice (some ⟨0, 0, none⟩) n n), (3, .pointer (some ⟨1, 0, none⟩)), (6, .slice (some ⟨0, 0, none⟩) n n), (7, .int .i64 n), (8, .int .i64 y.i)]) ([some ⟨L.flatMap mbC, false, 4⟩, some ⟨List.map Value.bool (tkL L y.i), true, 1⟩]) σ1 m1 ∧ (y.i ≤ n ∧ gdN L y.i = true) ∧ n - y.i < n - i) Q) ([(0, .slice (some ⟨0, 0, none⟩) n n), (3, .pointer (some ⟨1, 0, none⟩)), (6, .slice (some ⟨0, 0, none⟩) n n), (7, .int .i64 n), (8, .int .i64 i)]) ([some ⟨L.flatMap mbC, false, 4⟩, some ⟨List.map Value.bool (tkL L i), true, 1⟩]) := by
  have HN := ac_name nm true hb0
  have HS := ac_secret sec true hb1
  have HW0 : ACalls Tryz.prog 57 [.int .i64 no, .int .i64 0, .int .i64 2147483647] [] (.bool true) [] := by have h := ac_jwithin no 0 2147483647; rwa [decide_eq_true h1] at h
  have HW1 : ACalls Tryz.prog 57 [.int .i64 nd, .int .i64 1, .int .i64 31] [] (.bool true) [] := by have h := ac_jwithin nd 1 31; rwa [decide_eq_true h3] at h
  have htk := tkL_at (L := L) (i := i) (x := nd) (by omega)
  rw [hk] at htk
  clear g2
  repeat' first | intro h1 | intro h1 | refine st (h := ok_load_rowsE (f := mbC) (cs := [.string nm, .string sec, .int .i64 nd, .int .i64 no]) i (fun _ => rfl) hq rfl rfl rfl rfl (by omega)) ?_ | refine st (h := ok_load_mapE (f := Value.bool) nd.toNat htk rfl rfl rfl (by omega)) ?_ | refine st ?_ | refine st_call (HW1) ?_ | refine sd_call (HN) ?_ | refine sd_call (HS) ?_ | refine sd_call (HW0) ?_ | refine hR _ _ ?_ | refine stm ?_ | refine Ja ?_ | refine Jf ?_ | refine run_nil ?_ | refine sd ?_ | refine sdl ?_ | refine Jk ?_ | refine Jl ?_ | refine Jn ?_ ?_ | refine rund_nil ?_ | refine Jz ?_ | refine Jw ?_ | refine Jx (id := 5) [0,1,3,7,15,31,63,127,255,511,1023,2047,4095,8191,16383,32767,65535,131071,262143,524287,1048575,1048575,3145727,8388607,16777215,33554431,1048575,68157439,268435455,536870911,1073741823] 31 ?_ | refine aw_block ?_ | refine Jq ?_ | refine Jr ?_ | refine Js ?_ | refine Jt ?_ | refine Jy ?_ | refine aw_ret ?_ | refine pp_ret ?_
  all_goals first
    | rfl
    | (exfalso; omega)
    | (simp [retOf]; done)
    | (exfalso; simp_all; done)
    | (exfalso; simp only [Bool.not_eq_true', Bool.not_eq_false', decide_eq_true_eq, decide_eq_false_iff_not, Bool.not_false, Bool.not_true] at *; omega)
set_option maxHeartbeats 16000000 in
theorem jm_b_dp {Q : Exit → Slots → Mem → Prop} (L : List Mb) (n i : Nat) (nm sec : ByteArray) (nd no : Int) (hn : L.length = n) (hb : n ≤ 1000000) (hi : i < n) (hq : L[i]? = some ⟨nm, sec, nd, no⟩) (g2 : gdN L i = true) (hb0 : nmB nm = true) (hb1 : scB sec = true) (h1 : 0 ≤ no ∧ no ≤ 2147483647) (h0 : i ≠ 0) (nm' sec' : ByteArray) (nd' no' : Int) (hp : L[i - 1]? = some ⟨nm', sec', nd', no'⟩) (hlt : ltS nm' nm = true) (hn1 : nd ≠ -1) (h3 : ¬ (1 ≤ nd ∧ nd ≤ 31)) (hR : ∀ σ m, PostP Tryz.prog Tryz.f21.results.toList (.int .i64 1) .ret σ m → Q .ret σ m) : AW Tryz.prog Tryz.f21.ntmps 1 (loopAt Tryz.f21 0) (ThenA (fun σ1 m1 => ∃ y : Mi, Fits 1 ([(0, .slice (some ⟨0, 0, none⟩) n n), (3, .pointer (some ⟨1, 0, none⟩)), (6, .slice (some ⟨0, 0, none⟩) n n), (7, .int .i64 n), (8, .int .i64 y.i)]) ([some ⟨L.flatMap mbC, false, 4⟩, some ⟨List.map Value.bool (tkL L y.i), true, 1⟩]) σ1 m1 ∧ (y.i ≤ n ∧ gdN L y.i = true) ∧ n - y.i < n - i) Q) ([(0, .slice (some ⟨0, 0, none⟩) n n), (3, .pointer (some ⟨1, 0, none⟩)), (6, .slice (some ⟨0, 0, none⟩) n n), (7, .int .i64 n), (8, .int .i64 i)]) ([some ⟨L.flatMap mbC, false, 4⟩, some ⟨List.map Value.bool (tkL L i), true, 1⟩]) := by
  have HN := ac_name nm true hb0
  have HS := ac_secret sec true hb1
  have HW0 : ACalls Tryz.prog 57 [.int .i64 no, .int .i64 0, .int .i64 2147483647] [] (.bool true) [] := by have h := ac_jwithin no 0 2147483647; rwa [decide_eq_true h1] at h
  have HW1 : ACalls Tryz.prog 57 [.int .i64 nd, .int .i64 1, .int .i64 31] [] (.bool false) [] := by have h := ac_jwithin nd 1 31; rwa [decide_eq_false h3] at h
  clear g2
  repeat' first | intro h1 | intro h1 | refine st (h := ok_load_rowsE (f := mbC) (cs := [.string nm, .string sec, .int .i64 nd, .int .i64 no]) i (fun _ => rfl) hq rfl rfl rfl rfl (by omega)) ?_ | refine sdl (v := .string nm') (h := ok_load_rowcellE (f := mbC) (n := 4) (i - 1) 0 (fun _ => rfl) hp rfl (by omega) rfl rfl rfl (by omega)) ?_ | refine sd (h := ok_str_geq rfl rfl hlt) ?_ | refine st ?_ | refine st_call (HW1) ?_ | refine sd_call (HN) ?_ | refine sd_call (HS) ?_ | refine sd_call (HW0) ?_ | refine hR _ _ ?_ | refine stm ?_ | refine Jb ?_ | refine run_nil ?_ | refine sd ?_ | refine sdl ?_ | refine Jk ?_ | refine Jl ?_ | refine Jn ?_ ?_ | refine rund_nil ?_ | refine Jz ?_ | refine Jw ?_ | refine Jx (id := 5) [0,1,3,7,15,31,63,127,255,511,1023,2047,4095,8191,16383,32767,65535,131071,262143,524287,1048575,1048575,3145727,8388607,16777215,33554431,1048575,68157439,268435455,536870911,1073741823] 31 ?_ | refine aw_block ?_ | refine Jq ?_ | refine Jr ?_ | refine Js ?_ | refine Jt ?_ | refine Jy ?_ | refine aw_exit ?_ | refine aw_ret ?_ | refine pp_ret ?_
  all_goals first
    | rfl
    | (exfalso; omega)
    | (simp [retOf]; done)
    | (exfalso; simp_all; done)
    | (exfalso; simp only [Bool.not_eq_true', Bool.not_eq_false', decide_eq_true_eq, decide_eq_false_iff_not, Bool.not_false, Bool.not_true] at *; omega)
set_option maxHeartbeats 16000000 in
theorem jm_b_ep {Q : Exit → Slots → Mem → Prop} (L : List Mb) (n i : Nat) (nm sec : ByteArray) (nd no : Int) (hn : L.length = n) (hb : n ≤ 1000000) (hi : i < n) (hq : L[i]? = some ⟨nm, sec, nd, no⟩) (g2 : gdN L i = true) (hb0 : nmB nm = true) (hb1 : scB sec = true) (h1 : 0 ≤ no ∧ no ≤ 2147483647) (h0 : i ≠ 0) (nm' sec' : ByteArray) (nd' no' : Int) (hp : L[i - 1]? = some ⟨nm', sec', nd', no'⟩) (hlt : ltS nm' nm = true) (hn1 : nd ≠ -1) (h3 : 1 ≤ nd ∧ nd ≤ 31) (h4 : no = 0) (hR : ∀ σ m, PostP Tryz.prog Tryz.f21.results.toList (.int .i64 1) .ret σ m → Q .ret σ m) : AW Tryz.prog Tryz.f21.ntmps 1 (loopAt Tryz.f21 0) (ThenA (fun σ1 m1 => ∃ y : Mi, Fits 1 ([(0, .slice (some ⟨0, 0, none⟩) n n), (3, .pointer (some ⟨1, 0, none⟩)), (6, .slice (some ⟨0, 0, none⟩) n n), (7, .int .i64 n), (8, .int .i64 y.i)]) ([some ⟨L.flatMap mbC, false, 4⟩, some ⟨List.map Value.bool (tkL L y.i), true, 1⟩]) σ1 m1 ∧ (y.i ≤ n ∧ gdN L y.i = true) ∧ n - y.i < n - i) Q) ([(0, .slice (some ⟨0, 0, none⟩) n n), (3, .pointer (some ⟨1, 0, none⟩)), (6, .slice (some ⟨0, 0, none⟩) n n), (7, .int .i64 n), (8, .int .i64 i)]) ([some ⟨L.flatMap mbC, false, 4⟩, some ⟨List.map Value.bool (tkL L i), true, 1⟩]) := by
  have HN := ac_name nm true hb0
  have HS := ac_secret sec true hb1
  have HW0 : ACalls Tryz.prog 57 [.int .i64 no, .int .i64 0, .int .i64 2147483647] [] (.bool true) [] := by have h := ac_jwithin no 0 2147483647; rwa [decide_eq_true h1] at h
  have HW1 : ACalls Tryz.prog 57 [.int .i64 nd, .int .i64 1, .int .i64 31] [] (.bool true) [] := by have h := ac_jwithin nd 1 31; rwa [decide_eq_true h3] at h
  clear g2
  repeat' first | intro h1 | intro h1 | refine st (h := ok_load_rowsE (f := mbC) (cs := [.string nm, .string sec, .int .i64 nd, .int .i64 no]) i (fun _ => rfl) hq rfl rfl rfl rfl (by omega)) ?_ | refine sdl (v := .string nm') (h := ok_load_rowcellE (f := mbC) (n := 4) (i - 1) 0 (fun _ => rfl) hp rfl (by omega) rfl rfl rfl (by omega)) ?_ | refine sd (h := ok_str_geq rfl rfl hlt) ?_ | refine st ?_ | refine st_call (HW1) ?_ | refine sd_call (HN) ?_ | refine sd_call (HS) ?_ | refine sd_call (HW0) ?_ | refine hR _ _ ?_ | refine stm ?_ | refine Ja ?_ | refine Jb ?_ | refine Jg ?_ | refine run_nil ?_ | refine sd ?_ | refine sdl ?_ | refine Jk ?_ | refine Jl ?_ | refine Jn ?_ ?_ | refine rund_nil ?_ | refine Jz ?_ | refine Jw ?_ | refine Jx (id := 5) [0,1,3,7,15,31,63,127,255,511,1023,2047,4095,8191,16383,32767,65535,131071,262143,524287,1048575,1048575,3145727,8388607,16777215,33554431,1048575,68157439,268435455,536870911,1073741823] 31 ?_ | refine aw_block ?_ | refine Jq ?_ | refine Jr ?_ | refine Js ?_ | refine Jt ?_ | refine Jy ?_ | refine aw_exit ?_ | refine aw_ret ?_ | refine pp_ret ?_
  all_goals first
    | rfl
    | (exfalso; omega)
    | (simp [retOf]; done)
    | (exfalso; simp_all; done)
    | (exfalso; simp only [Bool.not_eq_true', Bool.not_eq_false', decide_eq_true_eq, decide_eq_false_iff_not, Bool.not_false, Bool.not_true] at *; omega)
set_option maxHeartbeats 16000000 in
theorem jm_b_tp {Q : Exit → Slots → Mem → Prop} (L : List Mb) (n i : Nat) (nm sec : ByteArray) (nd no : Int) (hn : L.length = n) (hb : n ≤ 1000000) (hi : i < n) (hq : L[i]? = some ⟨nm, sec, nd, no⟩) (g2 : gdN L i = true) (hb0 : nmB nm = true) (hb1 : scB sec = true) (h1 : 0 ≤ no ∧ no ≤ 2147483647) (h0 : i ≠ 0) (nm' sec' : ByteArray) (nd' no' : Int) (hp : L[i - 1]? = some ⟨nm', sec', nd', no'⟩) (hlt : ltS nm' nm = true) (hn1 : nd ≠ -1) (h3 : 1 ≤ nd ∧ nd ≤ 31) (h4 : 1 ≤ no) (hk : tkB L i nd = true) (hR : ∀ σ m, PostP Tryz.prog Tryz.f21.results.toList (.int .i64 1) .ret σ m → Q .ret σ m) : AW Tryz.prog Tryz.f21.ntmps 1 (loopAt Tryz.f21 0) (ThenA (fun σ1 m1 => ∃ y : Mi, Fits 1 ([(0, .slice (some ⟨0, 0, none⟩) n n), (3, .pointer (some ⟨1, 0, none⟩)), (6, .slice (some ⟨0, 0, none⟩) n n), (7, .int .i64 n), (8, .int .i64 y.i)]) ([some ⟨L.flatMap mbC, false, 4⟩, some ⟨List.map Value.bool (tkL L y.i), true, 1⟩]) σ1 m1 ∧ (y.i ≤ n ∧ gdN L y.i = true) ∧ n - y.i < n - i) Q) ([(0, .slice (some ⟨0, 0, none⟩) n n), (3, .pointer (some ⟨1, 0, none⟩)), (6, .slice (some ⟨0, 0, none⟩) n n), (7, .int .i64 n), (8, .int .i64 i)]) ([some ⟨L.flatMap mbC, false, 4⟩, some ⟨List.map Value.bool (tkL L i), true, 1⟩]) := by
  have HN := ac_name nm true hb0
  have HS := ac_secret sec true hb1
  have HW0 : ACalls Tryz.prog 57 [.int .i64 no, .int .i64 0, .int .i64 2147483647] [] (.bool true) [] := by have h := ac_jwithin no 0 2147483647; rwa [decide_eq_true h1] at h
  have HW1 : ACalls Tryz.prog 57 [.int .i64 nd, .int .i64 1, .int .i64 31] [] (.bool true) [] := by have h := ac_jwithin nd 1 31; rwa [decide_eq_true h3] at h
  have htk := tkL_at (L := L) (i := i) (x := nd) (by omega)
  rw [hk] at htk
  clear g2
  repeat' first | intro h1 | intro h1 | refine st (h := ok_load_rowsE (f := mbC) (cs := [.string nm, .string sec, .int .i64 nd, .int .i64 no]) i (fun _ => rfl) hq rfl rfl rfl rfl (by omega)) ?_ | refine sdl (v := .string nm') (h := ok_load_rowcellE (f := mbC) (n := 4) (i - 1) 0 (fun _ => rfl) hp rfl (by omega) rfl rfl rfl (by omega)) ?_ | refine sd (h := ok_str_geq rfl rfl hlt) ?_ | refine st (h := ok_load_mapE (f := Value.bool) nd.toNat htk rfl rfl rfl (by omega)) ?_ | refine st ?_ | refine st_call (HW1) ?_ | refine sd_call (HN) ?_ | refine sd_call (HS) ?_ | refine sd_call (HW0) ?_ | refine hR _ _ ?_ | refine stm ?_ | refine Ja ?_ | refine Jf ?_ | refine run_nil ?_ | refine sd ?_ | refine sdl ?_ | refine Jk ?_ | refine Jl ?_ | refine Jn ?_ ?_ | refine rund_nil ?_ | refine Jz ?_ | refine Jw ?_ | refine Jx (id := 5) [0,1,3,7,15,31,63,127,255,511,1023,2047,4095,8191,16383,32767,65535,131071,262143,524287,1048575,1048575,3145727,8388607,16777215,33554431,1048575,68157439,268435455,536870911,1073741823] 31 ?_ | refine aw_block ?_ | refine Jq ?_ | refine Jr ?_ | refine Js ?_ | refine Jt ?_ | refine Jy ?_ | refine aw_exit ?_ | refine aw_ret ?_ | refine pp_ret ?_
  all_goals first
    | rfl
    | (exfalso; omega)
    | (simp [retOf]; done)
    | (exfalso; simp_all; done)
    | (exfalso; simp only [Bool.not_eq_true', Bool.not_eq_false', decide_eq_true_eq, decide_eq_false_iff_not, Bool.not_false, Bool.not_true] at *; omega)
end Go.Proofs.YtdbcbclapipgdaaGreatDoor
