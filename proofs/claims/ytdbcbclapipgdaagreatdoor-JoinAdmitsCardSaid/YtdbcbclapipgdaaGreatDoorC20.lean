/- Join: a member that is right. -/
import Derived.Test.YtdbcbclapipgdaaGreatDoorVO
import Derived.Test.YtdbcbclapipgdaaGreatDoorJ
import Derived.Test.YtdbcbclapipgdaaGreatDoorC19
set_option linter.unusedVariables false
set_option linter.unusedSimpArgs false
namespace Go.Proofs.YtdbcbclapipgdaaGreatDoor
open Go Av
set_option maxRecDepth 20000
/-- Which numbers are taken. -/
def tkL (L : List Mb) (i : Nat) : List Bool := (List.range 32).map fun x : Nat => tkB L i x
theorem tkL_len (L : List Mb) (i : Nat) : (tkL L i).length = 32 := by simp [tkL]
theorem tkL_at {L : List Mb} {i : Nat} {x : Int} (h : 0 ≤ x ∧ x ≤ 31) : (tkL L i)[x.toNat]? = some (tkB L i x) := by
  have hx : x.toNat < 32 := by omega
  have e : ((x.toNat : Nat) : Int) = x := by omega
  simp [tkL, hx, e]
theorem tkL_same {L : List Mb} {i : Nat} (h : ndA L i = -1) : tkL L (i + 1) = tkL L i := by
  unfold tkL
  refine List.map_congr_left fun x _ => ?_
  rw [tkB_succ, h, decide_eq_false (by omega), Bool.or_false]
theorem tkL_set {L : List Mb} {i : Nat} {x : Int} (h : 0 ≤ x ∧ x ≤ 31) (hx : ndA L i = x) : (tkL L i).set x.toNat true = tkL L (i + 1) := by
  apply List.ext_getElem?
  intro k
  by_cases hk : k < 32
  · have e1 : (tkL L (i + 1))[k]? = some (tkB L (i + 1) k) := by simp [tkL, hk]
    have e2 : (tkL L i)[k]? = some (tkB L i k) := by simp [tkL, hk]
    rw [e1, tkB_succ, hx]
    by_cases hkx : x.toNat = k
    · subst hkx
      rw [List.getElem?_set_self (by rw [tkL_len]; exact hk), decide_eq_true (by omega), Bool.or_true]
    · rw [List.getElem?_set_ne hkx, e2, decide_eq_false (by omega), Bool.or_false]
  · rw [List.getElem?_eq_none (by rw [List.length_set, tkL_len]; omega), List.getElem?_eq_none (by rw [tkL_len]; omega)]
structure Mi where
  i : Nat
set_option maxHeartbeats 16000000 in
theorem jm_gzn {Q : Exit → Slots → Mem → Prop} (L : List Mb) (n i : Nat) (nm sec : ByteArray) (nd no : Int) (hn : L.length = n) (hb : n ≤ 1000000) (hi : i < n) (hq : L[i]? = some ⟨nm, sec, nd, no⟩) (g2 : gdN L i = true) (h0 : i = 0) (hn1 : nd = -1) (hgd : gdB L i ⟨nm, sec, nd, no⟩ = true) (hnx : gdN L (i + 1) = true) : AW Tryz.prog Tryz.f21.ntmps 1 (loopAt Tryz.f21 0) (ThenA (fun σ1 m1 => ∃ y : Mi, Fits 1 ([(0, .slice (some ⟨0, 0, none⟩) n n), (3, .pointer (some ⟨1, 0, none⟩)), (6, .slice (some ⟨0, 0, none⟩) n n), (7, .int .i64 n), (8, .int .i64 y.i)]) ([some ⟨L.flatMap mbC, false, 4⟩, some ⟨List.map Value.bool (tkL L y.i), true, 1⟩]) σ1 m1 ∧ (y.i ≤ n ∧ gdN L y.i = true) ∧ n - y.i < n - i) Q) ([(0, .slice (some ⟨0, 0, none⟩) n n), (3, .pointer (some ⟨1, 0, none⟩)), (6, .slice (some ⟨0, 0, none⟩) n n), (7, .int .i64 n), (8, .int .i64 i)]) ([some ⟨L.flatMap mbC, false, 4⟩, some ⟨List.map Value.bool (tkL L i), true, 1⟩]) := by
  obtain ⟨a, ha⟩ : ∃ a, nmB nm = a := ⟨_, rfl⟩
  obtain ⟨c, hc⟩ : ∃ c, scB sec = c := ⟨_, rfl⟩
  have HN := ac_name nm a ha
  have HS := ac_secret sec c hc
  have HW := ac_jwithin
  unfold gdB mb1 at hgd
  dsimp only at hgd
  rw [ha, hc] at hgd
  clear ha hc g2
  have hnd := ndA_at hq
  dsimp only at hnd
  obtain ⟨hg1, hg2⟩ := and_t hgd
  obtain ⟨hg3, hg4⟩ := and_t hg1
  obtain ⟨hg5, hg6⟩ := and_t hg3
  obtain ⟨hg7, hg8⟩ := and_t hg2
  subst hg5 hg6
  obtain ⟨h1, h2⟩ := of_decide_eq_true hg4
  clear hgd hg1 hg2 hg3 hg4
  clear hg7
  have htl := tkL_same (L := L) (i := i) (by rw [hnd]; exact hn1)
  clear h2 hg8
  repeat' first | intro h1 | intro h1 | refine st (h := ok_not_dec2 rfl) ?_ | refine sd (h := ok_not_dec2 rfl) ?_ | refine st (h := ok_load_rowsE (f := mbC) (cs := [.string nm, .string sec, .int .i64 nd, .int .i64 no]) i (fun _ => rfl) hq rfl rfl rfl rfl (by omega)) ?_ | refine sdl (h := ok_load_rowsE (f := mbC) (cs := [.string nm, .string sec, .int .i64 nd, .int .i64 no]) i (fun _ => rfl) hq rfl rfl rfl rfl (by omega)) ?_ | refine sd (h := ok_load_rowsE (f := mbC) (cs := [.string nm, .string sec, .int .i64 nd, .int .i64 no]) i (fun _ => rfl) hq rfl rfl rfl rfl (by omega)) ?_ | refine st ?_ | refine st_call (HN) ?_ | refine st_call (HS) ?_ | refine st_call (HW _ _ _) ?_ | refine sd_call (HN) ?_ | refine sd_call (HS) ?_ | refine sd_call (HW _ _ _) ?_ | refine stm ?_ | refine Ja ?_ | refine Jb ?_ | refine Jc ?_ | refine Jd ?_ | refine Je ?_ | refine Jf ?_ | refine Jg ?_ | refine Jh ?_ ?_ | refine Ji ?_ ?_ | refine Jj ?_ ?_ | refine run_nil ?_ | refine sd ?_ | refine sdl ?_ | refine sdm (n := 1) ?_ | refine sdm ?_ | refine sdb ?_ | refine Jk ?_ | refine Jl ?_ | refine Jm ?_ | refine Jn ?_ ?_ | refine Jo ?_ ?_ | refine Jp ?_ ?_ | refine rund_nil ?_ | refine Jz ?_ | refine Jw ?_ | refine Jx (id := 5) [0,1,3,7,15,31,63,127,255,511,1023,2047,4095,8191,16383,32767,65535,131071,262143,524287,1048575,1048575,3145727,8388607,16777215,33554431,1048575,68157439,268435455,536870911,1073741823] 31 ?_ | refine aw_block ?_ | refine Jq ?_ | refine Jr ?_ | refine Js ?_ | refine Jt ?_ | refine Ju ?_ ?_ | refine Jv ?_ ?_ | refine Jy ?_ | refine aw_exit ?_ | refine aw_ret ?_ | refine pp_ret ?_ | refine pp_normal ?_
  all_goals first | (rw [← htl]; exact Exists.intro ⟨i + 1⟩ ⟨fitsD [0, 1], ⟨hi, hnx⟩, by dsimp only; omega⟩) | (exfalso; omega) | (exfalso; simp only [Bool.not_false, Bool.not_true, Bool.not_eq_true', Bool.not_eq_false', Bool.not_not, decide_eq_false_iff_not, decide_eq_true_eq] at h1; omega) | skip
set_option maxHeartbeats 16000000 in
theorem jm_gzt {Q : Exit → Slots → Mem → Prop} (L : List Mb) (n i : Nat) (nm sec : ByteArray) (nd no : Int) (hn : L.length = n) (hb : n ≤ 1000000) (hi : i < n) (hq : L[i]? = some ⟨nm, sec, nd, no⟩) (g2 : gdN L i = true) (h0 : i = 0) (hn1 : nd ≠ -1) (hgd : gdB L i ⟨nm, sec, nd, no⟩ = true) (hnx : gdN L (i + 1) = true) : AW Tryz.prog Tryz.f21.ntmps 1 (loopAt Tryz.f21 0) (ThenA (fun σ1 m1 => ∃ y : Mi, Fits 1 ([(0, .slice (some ⟨0, 0, none⟩) n n), (3, .pointer (some ⟨1, 0, none⟩)), (6, .slice (some ⟨0, 0, none⟩) n n), (7, .int .i64 n), (8, .int .i64 y.i)]) ([some ⟨L.flatMap mbC, false, 4⟩, some ⟨List.map Value.bool (tkL L y.i), true, 1⟩]) σ1 m1 ∧ (y.i ≤ n ∧ gdN L y.i = true) ∧ n - y.i < n - i) Q) ([(0, .slice (some ⟨0, 0, none⟩) n n), (3, .pointer (some ⟨1, 0, none⟩)), (6, .slice (some ⟨0, 0, none⟩) n n), (7, .int .i64 n), (8, .int .i64 i)]) ([some ⟨L.flatMap mbC, false, 4⟩, some ⟨List.map Value.bool (tkL L i), true, 1⟩]) := by
  obtain ⟨a, ha⟩ : ∃ a, nmB nm = a := ⟨_, rfl⟩
  obtain ⟨c, hc⟩ : ∃ c, scB sec = c := ⟨_, rfl⟩
  have HN := ac_name nm a ha
  have HS := ac_secret sec c hc
  have HW := ac_jwithin
  unfold gdB mb1 at hgd
  dsimp only at hgd
  rw [ha, hc] at hgd
  clear ha hc g2
  have hnd := ndA_at hq
  dsimp only at hnd
  obtain ⟨hg1, hg2⟩ := and_t hgd
  obtain ⟨hg3, hg4⟩ := and_t hg1
  obtain ⟨hg5, hg6⟩ := and_t hg3
  obtain ⟨hg7, hg8⟩ := and_t hg2
  subst hg5 hg6
  obtain ⟨h1, h2⟩ := of_decide_eq_true hg4
  clear hgd hg1 hg2 hg3 hg4
  clear hg7
  have h3 : (1 ≤ nd ∧ nd ≤ 31) ∧ 1 ≤ no := by omega
  rw [decide_eq_false hn1, Bool.false_or] at hg8
  have htk0 : tkB L i nd = false := by simpa using hg8
  have htk := tkL_at (L := L) (i := i) (x := nd) (by omega)
  rw [htk0] at htk
  have hts := tkL_set (L := L) (i := i) (x := nd) (by omega) hnd
  clear h2 hg8
  repeat' first | intro h1 | intro h1 | refine st (h := ok_not_dec2 rfl) ?_ | refine sd (h := ok_not_dec2 rfl) ?_ | refine st (h := ok_load_rowsE (f := mbC) (cs := [.string nm, .string sec, .int .i64 nd, .int .i64 no]) i (fun _ => rfl) hq rfl rfl rfl rfl (by omega)) ?_ | refine sdl (h := ok_load_rowsE (f := mbC) (cs := [.string nm, .string sec, .int .i64 nd, .int .i64 no]) i (fun _ => rfl) hq rfl rfl rfl rfl (by omega)) ?_ | refine sd (h := ok_load_rowsE (f := mbC) (cs := [.string nm, .string sec, .int .i64 nd, .int .i64 no]) i (fun _ => rfl) hq rfl rfl rfl rfl (by omega)) ?_ | refine sdl (h := ok_load_mapE (f := Value.bool) nd.toNat htk rfl rfl rfl (by omega)) ?_ | refine sd (h := ok_load_mapE (f := Value.bool) nd.toNat htk rfl rfl rfl (by omega)) ?_ | refine st (h := ok_load_mapE (f := Value.bool) nd.toNat htk rfl rfl rfl (by omega)) ?_ | refine stm (h := ok_storeN (cs' := List.map Value.bool ((tkL L i).set nd.toNat true)) rfl rfl (ListR.refl _) rfl rfl rfl rfl (splice_map (f := Value.bool) (by omega) (by rw [tkL_len]; omega)) (by ((repeat constructor); first | done | fail)) rfl) ?_ | refine st ?_ | refine st_call (HN) ?_ | refine st_call (HS) ?_ | refine st_call (HW _ _ _) ?_ | refine sd_call (HN) ?_ | refine sd_call (HS) ?_ | refine sd_call (HW _ _ _) ?_ | refine stm ?_ | refine Ja ?_ | refine Jb ?_ | refine Jc ?_ | refine Jd ?_ | refine Je ?_ | refine Jf ?_ | refine Jg ?_ | refine Jh ?_ ?_ | refine Ji ?_ ?_ | refine Jj ?_ ?_ | refine run_nil ?_ | refine sd ?_ | refine sdl ?_ | refine sdm (n := 1) ?_ | refine sdm ?_ | refine sdb ?_ | refine Jk ?_ | refine Jl ?_ | refine Jm ?_ | refine Jn ?_ ?_ | refine Jo ?_ ?_ | refine Jp ?_ ?_ | refine rund_nil ?_ | refine Jz ?_ | refine Jw ?_ | refine Jx (id := 5) [0,1,3,7,15,31,63,127,255,511,1023,2047,4095,8191,16383,32767,65535,131071,262143,524287,1048575,1048575,3145727,8388607,16777215,33554431,1048575,68157439,268435455,536870911,1073741823] 31 ?_ | refine aw_block ?_ | refine Jq ?_ | refine Jr ?_ | refine Js ?_ | refine Jt ?_ | refine Ju ?_ ?_ | refine Jv ?_ ?_ | refine Jy ?_ | refine aw_exit ?_ | refine aw_ret ?_ | refine pp_ret ?_ | refine pp_normal ?_
  all_goals first | (rw [hts]; exact Exists.intro ⟨i + 1⟩ ⟨fitsD [0, 1], ⟨hi, hnx⟩, by dsimp only; omega⟩) | (exfalso; omega) | (exfalso; simp only [Bool.not_false, Bool.not_true, Bool.not_eq_true', Bool.not_eq_false', Bool.not_not, decide_eq_false_iff_not, decide_eq_true_eq] at h1; omega) | skip
set_option maxHeartbeats 16000000 in
theorem jm_gpn {Q : Exit → Slots → Mem → Prop} (L : List Mb) (n i : Nat) (nm sec : ByteArray) (nd no : Int) (hn : L.length = n) (hb : n ≤ 1000000) (hi : i < n) (hq : L[i]? = some ⟨nm, sec, nd, no⟩) (g2 : gdN L i = true) (h0 : i ≠ 0) (nm' sec' : ByteArray) (nd' no' : Int) (hp : L[i - 1]? = some ⟨nm', sec', nd', no'⟩) (hn1 : nd = -1) (hgd : gdB L i ⟨nm, sec, nd, no⟩ = true) (hnx : gdN L (i + 1) = true) : AW Tryz.prog Tryz.f21.ntmps 1 (loopAt Tryz.f21 0) (ThenA (fun σ1 m1 => ∃ y : Mi, Fits 1 ([(0, .slice (some ⟨0, 0, none⟩) n n), (3, .pointer (some ⟨1, 0, none⟩)), (6, .slice (some ⟨0, 0, none⟩) n n), (7, .int .i64 n), (8, .int .i64 y.i)]) ([some ⟨L.flatMap mbC, false, 4⟩, some ⟨List.map Value.bool (tkL L y.i), true, 1⟩]) σ1 m1 ∧ (y.i ≤ n ∧ gdN L y.i = true) ∧ n - y.i < n - i) Q) ([(0, .slice (some ⟨0, 0, none⟩) n n), (3, .pointer (some ⟨1, 0, none⟩)), (6, .slice (some ⟨0, 0, none⟩) n n), (7, .int .i64 n), (8, .int .i64 i)]) ([some ⟨L.flatMap mbC, false, 4⟩, some ⟨List.map Value.bool (tkL L i), true, 1⟩]) := by
  obtain ⟨a, ha⟩ : ∃ a, nmB nm = a := ⟨_, rfl⟩
  obtain ⟨c, hc⟩ : ∃ c, scB sec = c := ⟨_, rfl⟩
  have HN := ac_name nm a ha
  have HS := ac_secret sec c hc
  have HW := ac_jwithin
  unfold gdB mb1 at hgd
  dsimp only at hgd
  rw [ha, hc] at hgd
  clear ha hc g2
  have hnd := ndA_at hq
  dsimp only at hnd
  obtain ⟨hg1, hg2⟩ := and_t hgd
  obtain ⟨hg3, hg4⟩ := and_t hg1
  obtain ⟨hg5, hg6⟩ := and_t hg3
  obtain ⟨hg7, hg8⟩ := and_t hg2
  subst hg5 hg6
  obtain ⟨h1, h2⟩ := of_decide_eq_true hg4
  clear hgd hg1 hg2 hg3 hg4
  rw [decide_eq_false h0, Bool.false_or, nmAt_at hp] at hg7
  have hlt := hg7
  dsimp only at hlt
  clear hg7
  have htl := tkL_same (L := L) (i := i) (by rw [hnd]; exact hn1)
  clear h2 hg8
  repeat' first | intro h1 | intro h1 | refine st (h := ok_not_dec2 rfl) ?_ | refine sd (h := ok_not_dec2 rfl) ?_ | refine st (h := ok_load_rowsE (f := mbC) (cs := [.string nm, .string sec, .int .i64 nd, .int .i64 no]) i (fun _ => rfl) hq rfl rfl rfl rfl (by omega)) ?_ | refine sdl (h := ok_load_rowsE (f := mbC) (cs := [.string nm, .string sec, .int .i64 nd, .int .i64 no]) i (fun _ => rfl) hq rfl rfl rfl rfl (by omega)) ?_ | refine sd (h := ok_load_rowsE (f := mbC) (cs := [.string nm, .string sec, .int .i64 nd, .int .i64 no]) i (fun _ => rfl) hq rfl rfl rfl rfl (by omega)) ?_ | refine sdl (v := .string nm') (h := ok_load_rowcellE (f := mbC) (n := 4) (i - 1) 0 (fun _ => rfl) hp rfl (by omega) rfl rfl rfl (by omega)) ?_ | refine sd (v := .string nm') (h := ok_load_rowcellE (f := mbC) (n := 4) (i - 1) 0 (fun _ => rfl) hp rfl (by omega) rfl rfl rfl (by omega)) ?_ | refine st (v := .string nm') (h := ok_load_rowcellE (f := mbC) (n := 4) (i - 1) 0 (fun _ => rfl) hp rfl (by omega) rfl rfl rfl (by omega)) ?_ | refine sd (h := ok_str_geq rfl rfl hlt) ?_ | refine st (h := ok_str_geq rfl rfl hlt) ?_ | refine st ?_ | refine st_call (HN) ?_ | refine st_call (HS) ?_ | refine st_call (HW _ _ _) ?_ | refine sd_call (HN) ?_ | refine sd_call (HS) ?_ | refine sd_call (HW _ _ _) ?_ | refine stm ?_ | refine Ja ?_ | refine Jb ?_ | refine Jc ?_ | refine Jd ?_ | refine Je ?_ | refine Jf ?_ | refine Jg ?_ | refine Jh ?_ ?_ | refine Ji ?_ ?_ | refine Jj ?_ ?_ | refine run_nil ?_ | refine sd ?_ | refine sdl ?_ | refine sdm (n := 1) ?_ | refine sdm ?_ | refine sdb ?_ | refine Jk ?_ | refine Jl ?_ | refine Jm ?_ | refine Jn ?_ ?_ | refine Jo ?_ ?_ | refine Jp ?_ ?_ | refine rund_nil ?_ | refine Jz ?_ | refine Jw ?_ | refine Jx (id := 5) [0,1,3,7,15,31,63,127,255,511,1023,2047,4095,8191,16383,32767,65535,131071,262143,524287,1048575,1048575,3145727,8388607,16777215,33554431,1048575,68157439,268435455,536870911,1073741823] 31 ?_ | refine aw_block ?_ | refine Jq ?_ | refine Jr ?_ | refine Js ?_ | refine Jt ?_ | refine Ju ?_ ?_ | refine Jv ?_ ?_ | refine Jy ?_ | refine aw_exit ?_ | refine aw_ret ?_ | refine pp_ret ?_ | refine pp_normal ?_
  all_goals first | (rw [← htl]; exact Exists.intro ⟨i + 1⟩ ⟨fitsD [0, 1], ⟨hi, hnx⟩, by dsimp only; omega⟩) | (exfalso; omega) | (exfalso; simp only [Bool.not_false, Bool.not_true, Bool.not_eq_true', Bool.not_eq_false', Bool.not_not, decide_eq_false_iff_not, decide_eq_true_eq] at h1; omega) | skip
set_option maxHeartbeats 16000000 in
theorem jm_gpt {Q : Exit → Slots → Mem → Prop} (L : List Mb) (n i : Nat) (nm sec : ByteArray) (nd no : Int) (hn : L.length = n) (hb : n ≤ 1000000) (hi : i < n) (hq : L[i]? = some ⟨nm, sec, nd, no⟩) (g2 : gdN L i = true) (h0 : i ≠ 0) (nm' sec' : ByteArray) (nd' no' : Int) (hp : L[i - 1]? = some ⟨nm', sec', nd', no'⟩) (hn1 : nd ≠ -1) (hgd : gdB L i ⟨nm, sec, nd, no⟩ = true) (hnx : gdN L (i + 1) = true) : AW Tryz.prog Tryz.f21.ntmps 1 (loopAt Tryz.f21 0) (ThenA (fun σ1 m1 => ∃ y : Mi, Fits 1 ([(0, .slice (some ⟨0, 0, none⟩) n n), (3, .pointer (some ⟨1, 0, none⟩)), (6, .slice (some ⟨0, 0, none⟩) n n), (7, .int .i64 n), (8, .int .i64 y.i)]) ([some ⟨L.flatMap mbC, false, 4⟩, some ⟨List.map Value.bool (tkL L y.i), true, 1⟩]) σ1 m1 ∧ (y.i ≤ n ∧ gdN L y.i = true) ∧ n - y.i < n - i) Q) ([(0, .slice (some ⟨0, 0, none⟩) n n), (3, .pointer (some ⟨1, 0, none⟩)), (6, .slice (some ⟨0, 0, none⟩) n n), (7, .int .i64 n), (8, .int .i64 i)]) ([some ⟨L.flatMap mbC, false, 4⟩, some ⟨List.map Value.bool (tkL L i), true, 1⟩]) := by
  obtain ⟨a, ha⟩ : ∃ a, nmB nm = a := ⟨_, rfl⟩
  obtain ⟨c, hc⟩ : ∃ c, scB sec = c := ⟨_, rfl⟩
  have HN := ac_name nm a ha
  have HS := ac_secret sec c hc
  have HW := ac_jwithin
  unfold gdB mb1 at hgd
  dsimp only at hgd
  rw [ha, hc] at hgd
  clear ha hc g2
  have hnd := ndA_at hq
  dsimp only at hnd
  obtain ⟨hg1, hg2⟩ := and_t hgd
  obtain ⟨hg3, hg4⟩ := and_t hg1
  obtain ⟨hg5, hg6⟩ := and_t hg3
  obtain ⟨hg7, hg8⟩ := and_t hg2
  subst hg5 hg6
  obtain ⟨h1, h2⟩ := of_decide_eq_true hg4
  clear hgd hg1 hg2 hg3 hg4
  rw [decide_eq_false h0, Bool.false_or, nmAt_at hp] at hg7
  have hlt := hg7
  dsimp only at hlt
  clear hg7
  have h3 : (1 ≤ nd ∧ nd ≤ 31) ∧ 1 ≤ no := by omega
  rw [decide_eq_false hn1, Bool.false_or] at hg8
  have htk0 : tkB L i nd = false := by simpa using hg8
  have htk := tkL_at (L := L) (i := i) (x := nd) (by omega)
  rw [htk0] at htk
  have hts := tkL_set (L := L) (i := i) (x := nd) (by omega) hnd
  clear h2 hg8
  repeat' first | intro h1 | intro h1 | refine st (h := ok_not_dec2 rfl) ?_ | refine sd (h := ok_not_dec2 rfl) ?_ | refine st (h := ok_load_rowsE (f := mbC) (cs := [.string nm, .string sec, .int .i64 nd, .int .i64 no]) i (fun _ => rfl) hq rfl rfl rfl rfl (by omega)) ?_ | refine sdl (h := ok_load_rowsE (f := mbC) (cs := [.string nm, .string sec, .int .i64 nd, .int .i64 no]) i (fun _ => rfl) hq rfl rfl rfl rfl (by omega)) ?_ | refine sd (h := ok_load_rowsE (f := mbC) (cs := [.string nm, .string sec, .int .i64 nd, .int .i64 no]) i (fun _ => rfl) hq rfl rfl rfl rfl (by omega)) ?_ | refine sdl (v := .string nm') (h := ok_load_rowcellE (f := mbC) (n := 4) (i - 1) 0 (fun _ => rfl) hp rfl (by omega) rfl rfl rfl (by omega)) ?_ | refine sd (v := .string nm') (h := ok_load_rowcellE (f := mbC) (n := 4) (i - 1) 0 (fun _ => rfl) hp rfl (by omega) rfl rfl rfl (by omega)) ?_ | refine st (v := .string nm') (h := ok_load_rowcellE (f := mbC) (n := 4) (i - 1) 0 (fun _ => rfl) hp rfl (by omega) rfl rfl rfl (by omega)) ?_ | refine sd (h := ok_str_geq rfl rfl hlt) ?_ | refine st (h := ok_str_geq rfl rfl hlt) ?_ | refine sdl (h := ok_load_mapE (f := Value.bool) nd.toNat htk rfl rfl rfl (by omega)) ?_ | refine sd (h := ok_load_mapE (f := Value.bool) nd.toNat htk rfl rfl rfl (by omega)) ?_ | refine st (h := ok_load_mapE (f := Value.bool) nd.toNat htk rfl rfl rfl (by omega)) ?_ | refine stm (h := ok_storeN (cs' := List.map Value.bool ((tkL L i).set nd.toNat true)) rfl rfl (ListR.refl _) rfl rfl rfl rfl (splice_map (f := Value.bool) (by omega) (by rw [tkL_len]; omega)) (by ((repeat constructor); first | done | fail)) rfl) ?_ | refine st ?_ | refine st_call (HN) ?_ | refine st_call (HS) ?_ | refine st_call (HW _ _ _) ?_ | refine sd_call (HN) ?_ | refine sd_call (HS) ?_ | refine sd_call (HW _ _ _) ?_ | refine stm ?_ | refine Ja ?_ | refine Jb ?_ | refine Jc ?_ | refine Jd ?_ | refine Je ?_ | refine Jf ?_ | refine Jg ?_ | refine Jh ?_ ?_ | refine Ji ?_ ?_ | refine Jj ?_ ?_ | refine run_nil ?_ | refine sd ?_ | refine sdl ?_ | refine sdm (n := 1) ?_ | refine sdm ?_ | refine sdb ?_ | refine Jk ?_ | refine Jl ?_ | refine Jm ?_ | refine Jn ?_ ?_ | refine Jo ?_ ?_ | refine Jp ?_ ?_ | refine rund_nil ?_ | refine Jz ?_ | refine Jw ?_ | refine Jx (id := 5) [0,1,3,7,15,31,63,127,255,511,1023,2047,4095,8191,16383,32767,65535,131071,262143,524287,1048575,1048575,3145727,8388607,16777215,33554431,1048575,68157439,268435455,536870911,1073741823] 31 ?_ | refine aw_block ?_ | refine Jq ?_ | refine Jr ?_ | refine Js ?_ | refine Jt ?_ | refine Ju ?_ ?_ | refine Jv ?_ ?_ | refine Jy ?_ | refine aw_exit ?_ | refine aw_ret ?_ | refine pp_ret ?_ | refine pp_normal ?_
  all_goals first | (rw [hts]; exact Exists.intro ⟨i + 1⟩ ⟨fitsD [0, 1], ⟨hi, hnx⟩, by dsimp only; omega⟩) | (exfalso; omega) | (exfalso; simp only [Bool.not_false, Bool.not_true, Bool.not_eq_true', Bool.not_eq_false', Bool.not_not, decide_eq_false_iff_not, decide_eq_true_eq] at h1; omega) | skip
end Go.Proofs.YtdbcbclapipgdaaGreatDoor
