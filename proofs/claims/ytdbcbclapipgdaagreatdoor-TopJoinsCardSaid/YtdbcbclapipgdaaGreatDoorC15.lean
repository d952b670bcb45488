/- Join: a member that is right. -/
import Derived.Test.YtdbcbclapipgdaaGreatDoorVO
import Derived.Test.YtdbcbclapipgdaaGreatDoorJ
import Derived.Test.YtdbcbclapipgdaaGreatDoorC14
set_option linter.unusedVariables false
set_option linter.unusedSimpArgs false
namespace Go.Proofs.YtdbcbclapipgdaaGreatDoor
open Go Av
set_option maxRecDepth 20000
set_option maxHeartbeats 16000000 in
theorem jm_gpn {Q : Exit → Slots → Mem → Prop} (L : List Mb) (n i : Nat) (nm sec : ByteArray) (nd no : Int) (hn : L.length = n) (hb : n ≤ 1000000) (hi : i < n) (hq : L[i]? = some ⟨nm, sec, nd, no⟩) (g2 : gdN L i = true) (h0 : i ≠ 0) (nm' sec' : ByteArray) (nd' no' : Int) (hp : L[i - 1]? = some ⟨nm', sec', nd', no'⟩) (hn1 : nd = -1) (hgd : gdB L i ⟨nm, sec, nd, no⟩ = true) (hnx : gdN L (i + 1) = true) : AW Tryz.prog Tryz.f21.ntmps 1 (loopAt Tryz.f21 0) (ThenA (fun σ1 m1 => ∃ y : Mi, Fits 1 ([(0, .slice (some ⟨0, 0, none⟩) n n), (3, .pointer (some ⟨1, 0, none⟩)), (6, .slice (some ⟨0, 0, none⟩) n n), (7, .int .i64 n), (8, .int .i64 y.i)]) ([some ⟨L.flatMap mbC, false, 4⟩, some ⟨List.map Value.bool (tkL L y.i), true, 1⟩]) σ1 m1 ∧ (y.i ≤ n ∧ gdN L y.i = true) ∧ n - y.i < n - i) Q) ([(0, .slice (some ⟨0, 0, none⟩) n n), (3, .pointer (some ⟨1, 0, none⟩)), (6, .slice (some ⟨0, 0, none⟩) n n), (7, .int .i64 n), (8, .int .i64 i)]) ([some ⟨L.flatMap mbC, false, 4⟩, some ⟨List.map Value.bool (tkL L i), true, 1⟩]) := by
  obtain ⟨a, ha⟩ : ∃ a, nmB nm = a := ⟨_, rfl⟩
  obtain ⟨c, hc⟩ : ∃ c, scB sec = c := ⟨_, rfl⟩
  have HN := ac_name nm a ha
  have HS := ac_secret sec c hc
  have HW := ac_jwithin
  unfold gdB mb1 at hgd
  dsimp only at hgd
  rw [ha, hc] at hgd
  clear ha hc g2
  have hnd := ndA_at hq
  dsimp only at hnd
  obtain ⟨hg1, hg2⟩ := and_t hgd
  obtain ⟨hg3, hg4⟩ := and_t hg1
  obtain ⟨hg5, hg6⟩ := and_t hg3
  obtain ⟨hg7, hg8⟩ := and_t hg2
  subst hg5 hg6
  obtain ⟨h1, h2⟩ := of_decide_eq_true hg4
  clear hgd hg1 hg2 hg3 hg4
  rw [decide_eq_false h0, Bool.false_or, nmAt_at hp] at hg7
  have hlt := hg7
  dsimp only at hlt
  clear hg7
  have htl := tkL_same (L := L) (i := i) (by rw [hnd]; exact hn1)
  clear h2 hg8
  repeat' first | intro h1 | intro h1 | refine sd (h := ok_not_dec2 rfl) ?_ | refine st (h := ok_load_rowsE (f := mbC) (cs := [.string nm, .string sec, .int .i64 nd, .int .i64 no]) i (fun _ => rfl) hq rfl rfl rfl rfl (by omega)) ?_ | refine sdl (v := .string nm') (h := ok_load_rowcellE (f := mbC) (n := 4) (i - 1) 0 (fun _ => rfl) hp rfl (by omega) rfl rfl rfl (by omega)) ?_ | refine sd (h := ok_str_geq rfl rfl hlt) ?_ | refine st ?_ | refine sd_call (HN) ?_ | refine sd_call (HS) ?_ | refine sd_call (HW _ _ _) ?_ | refine stm ?_ | refine run_nil ?_ | refine sd ?_ | refine sdl ?_ | refine Jk ?_ | refine Jl ?_ | refine Jm ?_ | refine Jn ?_ ?_ | refine Jo ?_ ?_ | refine rund_nil ?_ | refine Jz ?_ | refine Jw ?_ | refine Jx (id := 5) [0,1,3,7,15,31,63,127,255,511,1023,2047,4095,8191,16383,32767,65535,131071,262143,524287,1048575,1048575,3145727,8388607,16777215,33554431,1048575,68157439,268435455,536870911,1073741823] 31 ?_ | refine aw_block ?_ | refine Jq ?_ | refine Jr ?_ | refine Js ?_ | refine Jy ?_ | refine aw_exit ?_ | refine aw_ret ?_
  all_goals first | (rw [← htl]; exact Exists.intro ⟨i + 1⟩ ⟨fitsD [0, 1], ⟨hi, hnx⟩, by dsimp only; omega⟩) | (exfalso; omega)
set_option maxHeartbeats 16000000 in
theorem jm_gpt {Q : Exit → Slots → Mem → Prop} (L : List Mb) (n i : Nat) (nm sec : ByteArray) (nd no : Int) (hn : L.length = n) (hb : n ≤ 1000000) (hi : i < n) (hq : L[i]? = some ⟨nm, sec, nd, no⟩) (g2 : gdN L i = true) (h0 : i ≠ 0) (nm' sec' : ByteArray) (nd' no' : Int) (hp : L[i - 1]? = some ⟨nm', sec', nd', no'⟩) (hn1 : nd ≠ -1) (hgd : gdB L i ⟨nm, sec, nd, no⟩ = true) (hnx : gdN L (i + 1) = true) : AW Tryz.prog Tryz.f21.ntmps 1 (loopAt Tryz.f21 0) (ThenA (fun σ1 m1 => ∃ y : Mi, Fits 1 ([(0, .slice (some ⟨0, 0, none⟩) n n), (3, .pointer (some ⟨1, 0, none⟩)), (6, .slice (some ⟨0, 0, none⟩) n n), (7, .int .i64 n), (8, .int .i64 y.i)]) ([some ⟨L.flatMap mbC, false, 4⟩, some ⟨List.map Value.bool (tkL L y.i), true, 1⟩]) σ1 m1 ∧ (y.i ≤ n ∧ gdN L y.i = true) ∧ n - y.i < n - i) Q) ([(0, .slice (some ⟨0, 0, none⟩) n n), (3, .pointer (some ⟨1, 0, none⟩)), (6, .slice (some ⟨0, 0, none⟩) n n), (7, .int .i64 n), (8, .int .i64 i)]) ([some ⟨L.flatMap mbC, false, 4⟩, some ⟨List.map Value.bool (tkL L i), true, 1⟩]) := by
  obtain ⟨a, ha⟩ : ∃ a, nmB nm = a := ⟨_, rfl⟩
  obtain ⟨c, hc⟩ : ∃ c, scB sec = c := ⟨_, rfl⟩
  have HN := ac_name nm a ha
  have HS := ac_secret sec c hc
  have HW := ac_jwithin
  unfold gdB mb1 at hgd
  dsimp only at hgd
  rw [ha, hc] at hgd
  clear ha hc g2
  have hnd := ndA_at hq
  dsimp only at hnd
  obtain ⟨hg1, hg2⟩ := and_t hgd
  obtain ⟨hg3, hg4⟩ := and_t hg1
  obtain ⟨hg5, hg6⟩ := and_t hg3
  obtain ⟨hg7, hg8⟩ := and_t hg2
  subst hg5 hg6
  obtain ⟨h1, h2⟩ := of_decide_eq_true hg4
  clear hgd hg1 hg2 hg3 hg4
  rw [decide_eq_false h0, Bool.false_or, nmAt_at hp] at hg7
  have hlt := hg7
  dsimp only at hlt
  clear hg7
  have h3 : (1 ≤ nd ∧ nd ≤ 31) ∧ 1 ≤ no := by omega
  rw [decide_eq_false hn1, Bool.false_or] at hg8
  have htk0 : tkB L i nd = false := by simpa using hg8
  have htk := tkL_at (L := L) (i := i) (x := nd) (by omega)
  rw [htk0] at htk
  have hts := tkL_set (L := L) (i := i) (x := nd) (by omega) hnd
  clear h2 hg8
  repeat' first | intro h1 | intro h1 | refine st (h := ok_not_dec2 rfl) ?_ | refine sd (h := ok_not_dec2 rfl) ?_ | refine st (h := ok_load_rowsE (f := mbC) (cs := [.string nm, .string sec, .int .i64 nd, .int .i64 no]) i (fun _ => rfl) hq rfl rfl rfl rfl (by omega)) ?_ | refine sdl (v := .string nm') (h := ok_load_rowcellE (f := mbC) (n := 4) (i - 1) 0 (fun _ => rfl) hp rfl (by omega) rfl rfl rfl (by omega)) ?_ | refine sd (h := ok_str_geq rfl rfl hlt) ?_ | refine st (h := ok_load_mapE (f := Value.bool) nd.toNat htk rfl rfl rfl (by omega)) ?_ | refine stm (h := ok_storeN (cs' := List.map Value.bool ((tkL L i).set nd.toNat true)) rfl rfl (ListR.refl _) rfl rfl rfl rfl (splice_map (f := Value.bool) (by omega) (by rw [tkL_len]; omega)) (by ((repeat constructor); first | done | fail)) rfl) ?_ | refine st ?_ | refine st_call (HW _ _ _) ?_ | refine sd_call (HN) ?_ | refine sd_call (HS) ?_ | refine sd_call (HW _ _ _) ?_ | refine stm ?_ | refine Ja ?_ | refine Jf ?_ | refine run_nil ?_ | refine sd ?_ | refine sdl ?_ | refine Jk ?_ | refine Jl ?_ | refine Jm ?_ | refine Jn ?_ ?_ | refine Jo ?_ ?_ | refine rund_nil ?_ | refine Jz ?_ | refine Jw ?_ | refine Jx (id := 5) [0,1,3,7,15,31,63,127,255,511,1023,2047,4095,8191,16383,32767,65535,131071,262143,524287,1048575,1048575,3145727,8388607,16777215,33554431,1048575,68157439,268435455,536870911,1073741823] 31 ?_ | refine aw_block ?_ | refine Jq ?_ | refine Jr ?_ | refine Js ?_ | refine Jt ?_ | refine Jy ?_ | refine aw_exit ?_ | refine aw_ret ?_
  all_goals first | (rw [hts]; exact Exists.intro ⟨i + 1⟩ ⟨fitsD [0, 1], ⟨hi, hnx⟩, by dsimp only; omega⟩) | (exfalso; omega)
end Go.Proofs.YtdbcbclapipgdaaGreatDoor
