/- JoinNumbers: a round. -/
import Derived.Test.YtdbcbclapipgdaaGreatDoorRG
set_option linter.unusedVariables false
set_option linter.unusedSimpArgs false
namespace Go.Proofs.YtdbcbclapipgdaaGreatDoor
open Go Av
set_option maxRecDepth 20000
set_option maxHeartbeats 16000000 in
theorem nu_round {Q : Exit → Slots → Mem → Prop} (X : List Int) (Y : List ByteArray) (na i p : Nat) (hna : na ≤ 12) (hp : p ≤ 12) (hp0 : 0 < p) (hi : i < na) (v : Int) (hv : X[i]? = some v) (hvr : 0 ≤ v ∧ v ≤ 255) (L : List Mb) (hM : nuM L p (2 * (i : Int))) : AW Tryz.prog Tryz.f5.ntmps 2 (loopAt Tryz.f5 1) (ThenA (fun σ1 m1 => ∃ y : Nu, Fits 2 ([(5, .slice (some ⟨2, 0, none⟩) y.p y.p), (60, .slice (some ⟨1, 0, none⟩) na na), (61, .int .i64 na), (62, .int .i64 y.i)]) ([some ⟨Y.map Value.string, false, 1⟩, some ⟨X.map (Value.int .u8), false, 1⟩, some ⟨y.L.flatMap mbC, true, 4⟩]) σ1 m1 ∧ (y.i ≤ na ∧ y.p ≤ 12 ∧ nuM y.L y.p (2 * (y.i : Int))) ∧ na - y.i < na - i) Q) ([(5, .slice (some ⟨2, 0, none⟩) p p), (60, .slice (some ⟨1, 0, none⟩) na na), (61, .int .i64 na), (62, .int .i64 i)]) ([some ⟨Y.map Value.string, false, 1⟩, some ⟨X.map (Value.int .u8), false, 1⟩, some ⟨L.flatMap mbC, true, 4⟩]) := by
  obtain ⟨j, hj⟩ : ∃ j : Nat, v % (p : Int) = j := ⟨(v % (p : Int)).toNat, by have := Int.emod_nonneg v (show (p : Int) ≠ 0 by omega); omega⟩
  have hjp : j < p := by have := Int.emod_lt_of_pos v (show (0 : Int) < p by omega); omega
  have hL := hM.2.1
  obtain ⟨⟨nm, sec, nd, nq⟩, hq⟩ : ∃ m, L[j]? = some m := ⟨_, List.getElem?_eq_getElem (by omega)⟩
  have hb := hM.2.2 j _ hq
  dsimp only at hb
  obtain ⟨z, hz⟩ : ∃ z, (i : Int) % 2 = z := ⟨_, rfl⟩
  have hzb : 0 ≤ z ∧ z ≤ 1 := by omega
  obtain ⟨N, hN⟩ : ∃ N, nq + 1 + z = N := ⟨_, rfl⟩
  have m1 := mb1_t (and_t (mm_at hM.1 hq)).1
  dsimp only at m1
  have s1 := nmB_t m1.1
  have s2 := scB_t m1.2.1
  obtain ⟨d, hd, hdd, hG, HA⟩ := adm_go L p hL (by omega) j nm sec nd nq N hM.1 hq (.inl (by omega)) (by omega)
  have hM2 := nu_set hM hG (by dsimp only; omega)
  have hq2 : (L.set j ⟨nm, sec, d, N⟩)[j]? = some ⟨nm, sec, d, N⟩ := List.getElem?_set_self (by omega)
  have hL2 : (L.set j ⟨nm, sec, d, N⟩).length = p := hM2.2.1
  have hoth : ∀ c, c ≠ j → (L.set j ⟨nm, sec, d, N⟩)[c]? = L[c]? := fun c hc => List.getElem?_set_ne (Ne.symm hc)
  generalize L.set j ⟨nm, sec, d, N⟩ = L2 at *
  obtain ⟨d2, hd2, hdd2, hG3, HB⟩ := adm_go L2 p hL2 (by omega) j nm sec d N N hG hq2 (.inr ⟨rfl, by omega⟩) (by omega)
  have hde : d2 = d := by omega
  rw [hde, set_same hq2] at HB
  clear hG3 hde hd2 hdd2 d2
  have HM := ac_jMembers L2 p hL2 (by omega)
  rw [hG] at HM
  dsimp only [cond] at HM
  have HS := ac_same L2 p hL2 (by omega)
  obtain ⟨e0, he0, HO⟩ := adm_old L2 p hL2 (by omega) j nm sec d N nq hG hq2 (by omega) hb.1
  have HC := ac_AskCode sec nm ⟨#[]⟩ N (by omega) (by omega) (by omega) (by omega)
  have HD := ac_AskCode sec nm (acS sec nm N) nq (by omega) (by omega) (by omega) (by omega)
  have hM3 : nuM L2 p (2 * ((i + 1 : Nat) : Int)) := by
    have e : 2 * ((i + 1 : Nat) : Int) = 2 * (i : Int) + 2 := by omega
    rw [e]
    exact hM2
  generalize nsS sec nm N d = C2 at *
  generalize acS sec nm N = C1 at *
  generalize acS sec nm nq = C0 at *
  have hinj : ∀ (c : Nat) (m : Mb), L[c]? = some m → m.nm = nm → c = j := fun c m hm e => gd_inj hM.1 (Nat.le_refl _) (List.getElem?_eq_some_iff.1 hm).1 (List.getElem?_eq_some_iff.1 hq).1 (by rw [nmAt_at hm, nmAt_at hq]; exact e)
  have hnn : ∀ (c : Nat) (m : Mb), L[c]? = some m → m.nd = -1 ∨ 0 ≤ m.nd := fun c m hm => by
    have := (mb1_t (and_t (mm_at hM.1 hm)).1).2.2.2
    omega
  clear hM hM2 m1 s1 s2
  have hND := hdd
  clear hdd
  repeat' first | intro h1 | refine st (h := ok_not_dec2 rfl) ?_ | refine sd (h := ok_not_dec2 rfl) ?_ | refine st (h := ok_load_mapE (f := Value.int .u8) i hv rfl rfl rfl (by omega)) ?_ | refine sd (h := ok_load_mapE (f := Value.int .u8) i hv rfl rfl rfl (by omega)) ?_ | refine st (v := .int .i64 (j : Int)) (h := by (rw [← hj]; exact ok_rem_pos rfl rfl (by omega))) ?_ | refine st (v := .int .i64 z) (h := by (rw [← hz]; exact ok_rem_pos rfl rfl (by omega))) ?_ | refine st (v := .int .i64 N) (h := by (rw [← hN]; apply ok_add64; rfl; rfl; omega)) ?_ | refine st (h := ok_load_rowsE (f := mbC) (cs := [.string nm, .string sec, .int .i64 nd, .int .i64 nq]) j (fun _ => rfl) hq rfl rfl rfl rfl (by omega)) ?_ | refine st (h := ok_agg_neqT rfl rfl (by ((repeat constructor); first | done | fail)) (by simp)) ?_ | refine sd (h := ok_agg_neqT rfl rfl (by ((repeat constructor); first | done | fail)) (by simp)) ?_ | refine st ?_ | refine st_call (HC) ?_ | refine sd_call (HC) ?_ | refine stMW [2] HA ?_ | refine stMW [5] HB ?_ | refine stRW [5, 7] HS ?_ | refine stRW [5] HM ?_ | refine st (h := ok_makeFunc (by ((repeat (apply ArgsR.cons; rfl)); exact ArgsR.nil)) (by ((repeat (apply ArgsR.cons; rfl)); exact ArgsR.nil))) ?_ | refine sd (h := ok_makeFunc (by ((repeat (apply ArgsR.cons; rfl)); exact ArgsR.nil)) (by ((repeat (apply ArgsR.cons; rfl)); exact ArgsR.nil))) ?_ | refine stm ?_ | refine Ja ?_ | refine Jb ?_ | refine Jc ?_ | refine Jd ?_ | refine Je ?_ | refine Jf ?_ | refine Jg ?_ | refine Jh ?_ ?_ | refine Ji ?_ ?_ | refine Jj ?_ ?_ | refine run_nil ?_ | refine sd ?_ | refine sdl ?_ | refine sdm (n := 1) ?_ | refine sdm ?_ | refine sdb ?_ | refine Jk ?_ | refine Jl ?_ | refine Jm ?_ | refine Jn ?_ ?_ | refine Jo ?_ ?_ | refine Jp ?_ ?_ | refine rund_nil ?_ | refine Jz ?_ | refine Jw ?_ | refine Jx (id := 10) [0,0,0,4,12,30,62,127,255] 7 ?_ | refine Jx (id := 28) [0,0,3,7,15,31,63,127,127,511,1023,2047,127,127,12415,28799,61567,131071,262143,524287,1048575,1048575,4194303,8388607,16777215,1048575,1048575,101711871,235929599,504365055,1073741823,2147483647,4294967295,8589934591,8589934591,34359738367,68719476735,137438953471,8589934591,283467841535,1099511627775,2199023255551,4398046511103,4398046511103,17592186044415,35184372088831,70368744177663,4398046511103,145135534866431,562949953421311,1125899906842623,2251799813685247] 52 ?_ | refine Jx (id := 33) [0,0,3,7,15,31,63,127,127,511,1023,2047,127,127,12415,28799,61567,131071,262143] 19 ?_ | refine aw_block ?_ | refine Jq ?_ | refine Jr ?_ | refine Js ?_ | refine Jt ?_ | refine Ju ?_ ?_ | refine Jv ?_ ?_ | refine Jy ?_ | refine aw_exit ?_ | refine aw_ret ?_ | refine pp_ret ?_ | refine pp_normal ?_
  all_goals try (exfalso; first | omega | exact h1 ⟨rfl, rfl, rfl, rfl, trivial⟩)
  clear HA HB HS HM HC
  refine aw_loopg
    (S := fun y : Ki => [(5, .slice (some ⟨2, 0, none⟩) p p), (10, .pointer (some ⟨3, 0, none⟩)), (11, .pointer (some ⟨4, 0, none⟩)), (12, .slice (some ⟨5, 0, none⟩) p p), (13, .pointer (some ⟨6, 0, none⟩)), (60, .slice (some ⟨1, 0, none⟩) na na), (61, .int .i64 na), (62, .int .i64 i), (143, .int .i64 p), (144, .int .i64 y.i)])
    (B := fun _ : Ki => [some ⟨Y.map Value.string, false, 1⟩, some ⟨X.map (Value.int .u8), false, 1⟩, some ⟨L.flatMap mbC, true, 4⟩, some ⟨[.string nm, .string sec, .int .i64 nd, .int .i64 nq], true, 1⟩, some ⟨[.string nm, .int .i64 N, .string C1], true, 1⟩, some ⟨L2.flatMap mbC, true, 4⟩, some ⟨[.string nm, .int .i64 N, .int .i64 d, .string C2], true, 1⟩])
    (R := fun y : Ki => y.i ≤ p)
    (μ := fun y : Ki => p - y.i) ⟨0⟩ (fitsD [0, 1, 2, 3, 4, 5, 6]) (Nat.zero_le _) ?_
  rintro ⟨c⟩ g1
  dsimp only at g1 ⊢
  by_cases hc : c < p
  · by_cases hcj : c = j
    · subst hcj
      rcases hND with h | h
      · subst h
        exact nu_cA1 X Y na i p hp (by omega) L L2 hL hL2 nm sec C1 C2 (-1) nq N d hG c hc hq hq2
      · subst h
        exact nu_cA2 X Y na i p hp (by omega) L L2 hL hL2 nm sec C1 C2 nd nq N nd hG c hc (by omega) hq hq2
    · obtain ⟨⟨cn, cs, cd, co⟩, hqc⟩ : ∃ m, L[c]? = some m := ⟨_, List.getElem?_eq_getElem (by omega)⟩
      have hne : cn ≠ nm := fun e => hcj (hinj c _ hqc e)
      have hqc2 := (hoth c hcj).trans hqc
      rcases hnn c _ hqc with h | h
      · dsimp only at h
        subst h
        exact nu_cB1 X Y na i p hp (by omega) L L2 hL hL2 nm sec C1 C2 nd nq N d hG c hc cn cs co hne hqc hqc2
      · exact nu_cB2 X Y na i p hp (by omega) L L2 hL hL2 nm sec C1 C2 nd nq N d hG c hc cn cs cd co h hne hqc hqc2
  · obtain rfl : c = p := by omega
    clear hoth hinj hnn hND hG hq hq2
    rcases he0 with h | h
    · subst h
      repeat' first | intro h1 | refine st (h := ok_not_dec2 rfl) ?_ | refine sd (h := ok_not_dec2 rfl) ?_ | refine st ?_ | refine st_call (HD) ?_ | refine sd_call (HD) ?_ | refine stRW [5] HO ?_ | refine st (h := ok_makeFunc (by ((repeat (apply ArgsR.cons; rfl)); exact ArgsR.nil)) (by ((repeat (apply ArgsR.cons; rfl)); exact ArgsR.nil))) ?_ | refine sd (h := ok_makeFunc (by ((repeat (apply ArgsR.cons; rfl)); exact ArgsR.nil)) (by ((repeat (apply ArgsR.cons; rfl)); exact ArgsR.nil))) ?_ | refine stm ?_ | refine Ja ?_ | refine Jb ?_ | refine Jc ?_ | refine Jd ?_ | refine Je ?_ | refine Jf ?_ | refine Jg ?_ | refine Jh ?_ ?_ | refine Ji ?_ ?_ | refine Jj ?_ ?_ | refine run_nil ?_ | refine sd ?_ | refine sdl ?_ | refine sdm (n := 1) ?_ | refine sdm ?_ | refine sdb ?_ | refine Jk ?_ | refine Jl ?_ | refine Jm ?_ | refine Jn ?_ ?_ | refine Jo ?_ ?_ | refine Jp ?_ ?_ | refine rund_nil ?_ | refine Jz ?_ | refine Jw ?_ | refine Jx (id := 10) [0,0,0,4,12,30,62,127,255] 7 ?_ | refine Jx (id := 28) [0,0,3,7,15,31,63,127,127,511,1023,2047,127,127,12415,28799,61567,131071,262143,524287,1048575,1048575,4194303,8388607,16777215,1048575,1048575,101711871,235929599,504365055,1073741823,2147483647,4294967295,8589934591,8589934591,34359738367,68719476735,137438953471,8589934591,283467841535,1099511627775,2199023255551,4398046511103,4398046511103,17592186044415,35184372088831,70368744177663,4398046511103,145135534866431,562949953421311,1125899906842623,2251799813685247] 52 ?_ | refine Jx (id := 33) [0,0,3,7,15,31,63,127,127,511,1023,2047,127,127,12415,28799,61567,131071,262143] 19 ?_ | refine aw_block ?_ | refine Jq ?_ | refine Jr ?_ | refine Js ?_ | refine Jt ?_ | refine Ju ?_ ?_ | refine Jv ?_ ?_ | refine Jy ?_ | refine aw_exit ?_ | refine aw_ret ?_ | refine pp_ret ?_ | refine pp_normal ?_
      all_goals first | exact Exists.intro ⟨i + 1, c, L2⟩ ⟨fitsD [0, 1, 5], ⟨hi, hp, hM3⟩, by dsimp only; omega⟩ | (exfalso; omega)
    · subst h
      repeat' first | intro h1 | refine st (h := ok_not_dec2 rfl) ?_ | refine sd (h := ok_not_dec2 rfl) ?_ | refine st ?_ | refine st_call (HD) ?_ | refine sd_call (HD) ?_ | refine stRW [5] HO ?_ | refine st (h := ok_makeFunc (by ((repeat (apply ArgsR.cons; rfl)); exact ArgsR.nil)) (by ((repeat (apply ArgsR.cons; rfl)); exact ArgsR.nil))) ?_ | refine sd (h := ok_makeFunc (by ((repeat (apply ArgsR.cons; rfl)); exact ArgsR.nil)) (by ((repeat (apply ArgsR.cons; rfl)); exact ArgsR.nil))) ?_ | refine stm ?_ | refine Ja ?_ | refine Jb ?_ | refine Jc ?_ | refine Jd ?_ | refine Je ?_ | refine Jf ?_ | refine Jg ?_ | refine Jh ?_ ?_ | refine Ji ?_ ?_ | refine Jj ?_ ?_ | refine run_nil ?_ | refine sd ?_ | refine sdl ?_ | refine sdm (n := 1) ?_ | refine sdm ?_ | refine sdb ?_ | refine Jk ?_ | refine Jl ?_ | refine Jm ?_ | refine Jn ?_ ?_ | refine Jo ?_ ?_ | refine Jp ?_ ?_ | refine rund_nil ?_ | refine Jz ?_ | refine Jw ?_ | refine Jx (id := 10) [0,0,0,4,12,30,62,127,255] 7 ?_ | refine Jx (id := 28) [0,0,3,7,15,31,63,127,127,511,1023,2047,127,127,12415,28799,61567,131071,262143,524287,1048575,1048575,4194303,8388607,16777215,1048575,1048575,101711871,235929599,504365055,1073741823,2147483647,4294967295,8589934591,8589934591,34359738367,68719476735,137438953471,8589934591,283467841535,1099511627775,2199023255551,4398046511103,4398046511103,17592186044415,35184372088831,70368744177663,4398046511103,145135534866431,562949953421311,1125899906842623,2251799813685247] 52 ?_ | refine Jx (id := 33) [0,0,3,7,15,31,63,127,127,511,1023,2047,127,127,12415,28799,61567,131071,262143] 19 ?_ | refine aw_block ?_ | refine Jq ?_ | refine Jr ?_ | refine Js ?_ | refine Jt ?_ | refine Ju ?_ ?_ | refine Jv ?_ ?_ | refine Jy ?_ | refine aw_exit ?_ | refine aw_ret ?_ | refine pp_ret ?_ | refine pp_normal ?_
      all_goals first | exact Exists.intro ⟨i + 1, c, L2⟩ ⟨fitsD [0, 1, 5], ⟨hi, hp, hM3⟩, by dsimp only; omega⟩ | (exfalso; omega)
end Go.Proofs.YtdbcbclapipgdaaGreatDoor
