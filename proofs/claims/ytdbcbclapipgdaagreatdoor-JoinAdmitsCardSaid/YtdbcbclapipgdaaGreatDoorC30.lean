/- Join: requests that are refused; Join: requests that are admitted; Join: requests that are refused (reference). -/
import Derived.Test.YtdbcbclapipgdaaGreatDoorVO
import Derived.Test.YtdbcbclapipgdaaGreatDoorJ
import Derived.Test.YtdbcbclapipgdaaGreatDoorC16
import Derived.Test.YtdbcbclapipgdaaGreatDoorC29
set_option linter.unusedVariables false
set_option linter.unusedSimpArgs false
namespace Go.Proofs.YtdbcbclapipgdaaGreatDoor
open Go Av
set_option maxRecDepth 20000
set_option maxHeartbeats 16000000 in
theorem ja_p (L : List Mb) (n : Nat) (hn : L.length = n) (hb : n ≤ 1000000) (nm cd : ByteArray) (no : Int) (hm : mmB L = true) (hk : akB nm no cd = true) (i : Nat) (hix : ixN L nm = i) (nm2 sec : ByteArray) (nd nq : Int) (hq : L[i]? = some ⟨nm2, sec, nd, nq⟩) (hcd : cd ≠ acS sec nm no) : ACalls Tryz.prog 19 [.slice (some ⟨0, 0, none⟩) n n, .agg #[.string nm, .int .i64 no, .string cd]] [some ⟨L.flatMap mbC, false, 4⟩] (.tuple #[.slice none 0 0, .agg #[.string ⟨#[]⟩, .int .i64 0, .int .i64 0, .string ⟨#[]⟩], .int .i64 20]) [none] := by
  have HM : ACalls Tryz.prog 21 [.slice (some ⟨0, 0, none⟩) n n] [some ⟨L.flatMap mbC, false, 4⟩] (.int .i64 0) [none] := by have h := ac_jMembers L n hn hb; rw [hm] at h; exact h
  have HK := ac_asks nm no cd true hk
  have HS := srch_hit L n hn hb nm hm i hix _ hq
  obtain ⟨hk1, hk2, hk3⟩ := akB_t hk
  have hk4 := nmB_t hk1
  have hs2 := scB_t (mb1_t (and_t (gdN_at hm (by have := (List.getElem?_eq_some_iff.1 hq).1; omega) hq)).1).2.1
  have hg2 := (mb1_t (and_t (gdN_at hm (by have := (List.getElem?_eq_some_iff.1 hq).1; omega) hq)).1).2.2
  have hin : i < n := by have := (List.getElem?_eq_some_iff.1 hq).1; omega
  dsimp only at hs2 hg2
  have HD := ac_code1 sec askW nm no (by omega) (by decide) (by omega) (by omega) (by omega)
  have e1 : cdS sec (tx1 askW nm no) = acS sec nm no := rfl
  try rw [e1] at HD
  obtain ⟨C, hC⟩ : ∃ C, acS sec nm no = C := ⟨_, rfl⟩
  rw [hC] at HD hcd
  clear hC e1
  replace hcd : decide (cd = C) = false := decide_eq_false hcd
  refine acalls_law Tryz.func19 rfl rfl rfl ?_
  repeat' first | intro h1 | intro h1 | refine st (h := ok_not_dec2 rfl) ?_ | refine sd (h := ok_not_dec2 rfl) ?_ | refine st (h := ok_load_rowsE (f := mbC) (cs := [.string nm2, .string sec, .int .i64 nd, .int .i64 nq]) i (fun _ => rfl) hq rfl rfl rfl rfl (by omega)) ?_ | refine sdl (h := ok_load_rowsE (f := mbC) (cs := [.string nm2, .string sec, .int .i64 nd, .int .i64 nq]) i (fun _ => rfl) hq rfl rfl rfl rfl (by omega)) ?_ | refine sd (h := ok_load_rowsE (f := mbC) (cs := [.string nm2, .string sec, .int .i64 nd, .int .i64 nq]) i (fun _ => rfl) hq rfl rfl rfl rfl (by omega)) ?_ | refine st (h := ok_str_neqE rfl rfl hcd) ?_ | refine sd (h := ok_str_neqE rfl rfl hcd) ?_ | refine st ?_ | refine stRW [0] HM ?_ | refine sdRW [0] HM ?_ | refine st_call (HK) ?_ | refine sd_call (HK) ?_ | refine stRW [0] HS ?_ | refine sdRW [0] HS ?_ | refine sdRW [4] HD ?_ | refine stRW [4] HD ?_ | refine sdRW [5] HD ?_ | refine stRW [5] HD ?_ | refine st_call (ac_adf _) ?_ | refine sd_call (ac_adf _) ?_ | refine stm ?_ | refine Ja ?_ | refine Jb ?_ | refine Jc ?_ | refine Jd ?_ | refine Je ?_ | refine Jf ?_ | refine Jg ?_ | refine Jh ?_ ?_ | refine Ji ?_ ?_ | refine Jj ?_ ?_ | refine run_nil ?_ | refine sd ?_ | refine sdl ?_ | refine sdm (n := 1) ?_ | refine sdm ?_ | refine sdb ?_ | refine Jk ?_ | refine Jl ?_ | refine Jm ?_ | refine Jn ?_ ?_ | refine Jo ?_ ?_ | refine Jp ?_ ?_ | refine rund_nil ?_ | refine Jz ?_ | refine Jw ?_ | refine Jx (id := 10) [0,1,0,4,0,16,0,64,192,508,1023,2047] 12 ?_ | refine Jx (id := 23) [0,0,2,0,8,0,32,0,128,0,512,0,2048,0,8192,30720,65408,131070,130945,524287,1048575] 19 ?_ | refine aw_block ?_ | refine Jq ?_ | refine Jr ?_ | refine Js ?_ | refine Jt ?_ | refine Ju ?_ ?_ | refine Jv ?_ ?_ | refine Jy ?_ | refine aw_exit ?_ | refine aw_ret ?_ | refine pp_ret ?_ | refine pp_normal ?_
  all_goals first
    | rfl
    | (exfalso; omega)
    | (simp [retOf]; done)
    | (exfalso; simp_all; done)
    | (exfalso; simp only [Bool.not_eq_true', Bool.not_eq_false', decide_eq_true_eq, decide_eq_false_iff_not, Bool.not_false, Bool.not_true] at *; omega)
set_option maxHeartbeats 16000000 in
theorem ja_l (L : List Mb) (n : Nat) (hn : L.length = n) (hb : n ≤ 1000000) (nm cd : ByteArray) (no : Int) (hm : mmB L = true) (hk : akB nm no cd = true) (i : Nat) (hix : ixN L nm = i) (nm2 sec : ByteArray) (nd nq : Int) (hq : L[i]? = some ⟨nm2, sec, nd, nq⟩) (hcd : cd = acS sec nm no) (hl : no < nq) : ACalls Tryz.prog 19 [.slice (some ⟨0, 0, none⟩) n n, .agg #[.string nm, .int .i64 no, .string cd]] [some ⟨L.flatMap mbC, false, 4⟩] (.tuple #[.slice none 0 0, .agg #[.string ⟨#[]⟩, .int .i64 0, .int .i64 0, .string ⟨#[]⟩], .int .i64 15]) [none] := by
  have HM : ACalls Tryz.prog 21 [.slice (some ⟨0, 0, none⟩) n n] [some ⟨L.flatMap mbC, false, 4⟩] (.int .i64 0) [none] := by have h := ac_jMembers L n hn hb; rw [hm] at h; exact h
  have HK := ac_asks nm no cd true hk
  have HS := srch_hit L n hn hb nm hm i hix _ hq
  obtain ⟨hk1, hk2, hk3⟩ := akB_t hk
  have hk4 := nmB_t hk1
  have hs2 := scB_t (mb1_t (and_t (gdN_at hm (by have := (List.getElem?_eq_some_iff.1 hq).1; omega) hq)).1).2.1
  have hg2 := (mb1_t (and_t (gdN_at hm (by have := (List.getElem?_eq_some_iff.1 hq).1; omega) hq)).1).2.2
  have hin : i < n := by have := (List.getElem?_eq_some_iff.1 hq).1; omega
  dsimp only at hs2 hg2
  have HD := ac_code1 sec askW nm no (by omega) (by decide) (by omega) (by omega) (by omega)
  have e1 : cdS sec (tx1 askW nm no) = acS sec nm no := rfl
  try rw [e1] at HD
  obtain ⟨C, hC⟩ : ∃ C, acS sec nm no = C := ⟨_, rfl⟩
  rw [hC] at HD hcd
  clear hC e1
  replace hcd : decide (cd = C) = true := decide_eq_true hcd
  refine acalls_law Tryz.func19 rfl rfl rfl ?_
  repeat' first | intro h1 | intro h1 | refine st (h := ok_not_dec2 rfl) ?_ | refine sd (h := ok_not_dec2 rfl) ?_ | refine st (h := ok_load_rowsE (f := mbC) (cs := [.string nm2, .string sec, .int .i64 nd, .int .i64 nq]) i (fun _ => rfl) hq rfl rfl rfl rfl (by omega)) ?_ | refine sdl (h := ok_load_rowsE (f := mbC) (cs := [.string nm2, .string sec, .int .i64 nd, .int .i64 nq]) i (fun _ => rfl) hq rfl rfl rfl rfl (by omega)) ?_ | refine sd (h := ok_load_rowsE (f := mbC) (cs := [.string nm2, .string sec, .int .i64 nd, .int .i64 nq]) i (fun _ => rfl) hq rfl rfl rfl rfl (by omega)) ?_ | refine st (h := ok_str_neqE rfl rfl hcd) ?_ | refine sd (h := ok_str_neqE rfl rfl hcd) ?_ | refine st ?_ | refine stRW [0] HM ?_ | refine sdRW [0] HM ?_ | refine st_call (HK) ?_ | refine sd_call (HK) ?_ | refine stRW [0] HS ?_ | refine sdRW [0] HS ?_ | refine sdRW [4] HD ?_ | refine stRW [4] HD ?_ | refine sdRW [5] HD ?_ | refine stRW [5] HD ?_ | refine st_call (ac_adf _) ?_ | refine sd_call (ac_adf _) ?_ | refine stm ?_ | refine Ja ?_ | refine Jb ?_ | refine Jc ?_ | refine Jd ?_ | refine Je ?_ | refine Jf ?_ | refine Jg ?_ | refine Jh ?_ ?_ | refine Ji ?_ ?_ | refine Jj ?_ ?_ | refine run_nil ?_ | refine sd ?_ | refine sdl ?_ | refine sdm (n := 1) ?_ | refine sdm ?_ | refine sdb ?_ | refine Jk ?_ | refine Jl ?_ | refine Jm ?_ | refine Jn ?_ ?_ | refine Jo ?_ ?_ | refine Jp ?_ ?_ | refine rund_nil ?_ | refine Jz ?_ | refine Jw ?_ | refine Jx (id := 10) [0,1,0,4,0,16,0,64,192,508,1023,2047] 12 ?_ | refine Jx (id := 23) [0,0,2,0,8,0,32,0,128,0,512,0,2048,0,8192,30720,65408,131070,130945,524287,1048575] 19 ?_ | refine aw_block ?_ | refine Jq ?_ | refine Jr ?_ | refine Js ?_ | refine Jt ?_ | refine Ju ?_ ?_ | refine Jv ?_ ?_ | refine Jy ?_ | refine aw_exit ?_ | refine aw_ret ?_ | refine pp_ret ?_ | refine pp_normal ?_
  all_goals first
    | rfl
    | (exfalso; omega)
    | (simp [retOf]; done)
    | (exfalso; simp_all; done)
    | (exfalso; simp only [Bool.not_eq_true', Bool.not_eq_false', decide_eq_true_eq, decide_eq_false_iff_not, Bool.not_false, Bool.not_true] at *; omega)
set_option maxHeartbeats 16000000 in
theorem ja_s (L : List Mb) (n : Nat) (hn : L.length = n) (hb : n ≤ 1000000) (nm cd : ByteArray) (no : Int) (hm : mmB L = true) (hk : akB nm no cd = true) (i : Nat) (hix : ixN L nm = i) (nm2 sec : ByteArray) (nd nq : Int) (hq : L[i]? = some ⟨nm2, sec, nd, nq⟩) (hcd : cd = acS sec nm no) (hl : no = nq) (hd : nd = -1) : ACalls Tryz.prog 19 [.slice (some ⟨0, 0, none⟩) n n, .agg #[.string nm, .int .i64 no, .string cd]] [some ⟨L.flatMap mbC, false, 4⟩] (.tuple #[.slice none 0 0, .agg #[.string ⟨#[]⟩, .int .i64 0, .int .i64 0, .string ⟨#[]⟩], .int .i64 12]) [none] := by
  have HM : ACalls Tryz.prog 21 [.slice (some ⟨0, 0, none⟩) n n] [some ⟨L.flatMap mbC, false, 4⟩] (.int .i64 0) [none] := by have h := ac_jMembers L n hn hb; rw [hm] at h; exact h
  have HK := ac_asks nm no cd true hk
  have HS := srch_hit L n hn hb nm hm i hix _ hq
  obtain ⟨hk1, hk2, hk3⟩ := akB_t hk
  have hk4 := nmB_t hk1
  have hs2 := scB_t (mb1_t (and_t (gdN_at hm (by have := (List.getElem?_eq_some_iff.1 hq).1; omega) hq)).1).2.1
  have hg2 := (mb1_t (and_t (gdN_at hm (by have := (List.getElem?_eq_some_iff.1 hq).1; omega) hq)).1).2.2
  have hin : i < n := by have := (List.getElem?_eq_some_iff.1 hq).1; omega
  dsimp only at hs2 hg2
  have HD := ac_code1 sec askW nm no (by omega) (by decide) (by omega) (by omega) (by omega)
  have e1 : cdS sec (tx1 askW nm no) = acS sec nm no := rfl
  try rw [e1] at HD
  obtain ⟨C, hC⟩ : ∃ C, acS sec nm no = C := ⟨_, rfl⟩
  rw [hC] at HD hcd
  clear hC e1
  replace hcd : decide (cd = C) = true := decide_eq_true hcd
  refine acalls_law Tryz.func19 rfl rfl rfl ?_
  repeat' first | intro h1 | intro h1 | refine st (h := ok_not_dec2 rfl) ?_ | refine sd (h := ok_not_dec2 rfl) ?_ | refine st (h := ok_load_rowsE (f := mbC) (cs := [.string nm2, .string sec, .int .i64 nd, .int .i64 nq]) i (fun _ => rfl) hq rfl rfl rfl rfl (by omega)) ?_ | refine sdl (h := ok_load_rowsE (f := mbC) (cs := [.string nm2, .string sec, .int .i64 nd, .int .i64 nq]) i (fun _ => rfl) hq rfl rfl rfl rfl (by omega)) ?_ | refine sd (h := ok_load_rowsE (f := mbC) (cs := [.string nm2, .string sec, .int .i64 nd, .int .i64 nq]) i (fun _ => rfl) hq rfl rfl rfl rfl (by omega)) ?_ | refine st (h := ok_str_neqE rfl rfl hcd) ?_ | refine sd (h := ok_str_neqE rfl rfl hcd) ?_ | refine st ?_ | refine stRW [0] HM ?_ | refine sdRW [0] HM ?_ | refine st_call (HK) ?_ | refine sd_call (HK) ?_ | refine stRW [0] HS ?_ | refine sdRW [0] HS ?_ | refine sdRW [4] HD ?_ | refine stRW [4] HD ?_ | refine sdRW [5] HD ?_ | refine stRW [5] HD ?_ | refine st_call (ac_adf _) ?_ | refine sd_call (ac_adf _) ?_ | refine stm ?_ | refine Ja ?_ | refine Jb ?_ | refine Jc ?_ | refine Jd ?_ | refine Je ?_ | refine Jf ?_ | refine Jg ?_ | refine Jh ?_ ?_ | refine Ji ?_ ?_ | refine Jj ?_ ?_ | refine run_nil ?_ | refine sd ?_ | refine sdl ?_ | refine sdm (n := 1) ?_ | refine sdm ?_ | refine sdb ?_ | refine Jk ?_ | refine Jl ?_ | refine Jm ?_ | refine Jn ?_ ?_ | refine Jo ?_ ?_ | refine Jp ?_ ?_ | refine rund_nil ?_ | refine Jz ?_ | refine Jw ?_ | refine Jx (id := 10) [0,1,0,4,0,16,0,64,192,508,1023,2047] 12 ?_ | refine Jx (id := 23) [0,0,2,0,8,0,32,0,128,0,512,0,2048,0,8192,30720,65408,131070,130945,524287,1048575] 19 ?_ | refine aw_block ?_ | refine Jq ?_ | refine Jr ?_ | refine Js ?_ | refine Jt ?_ | refine Ju ?_ ?_ | refine Jv ?_ ?_ | refine Jy ?_ | refine aw_exit ?_ | refine aw_ret ?_ | refine pp_ret ?_ | refine pp_normal ?_
  all_goals first
    | rfl
    | (exfalso; omega)
    | (simp [retOf]; done)
    | (exfalso; simp_all; done)
    | (exfalso; simp only [Bool.not_eq_true', Bool.not_eq_false', decide_eq_true_eq, decide_eq_false_iff_not, Bool.not_false, Bool.not_true] at *; omega)
set_option maxHeartbeats 16000000 in
theorem ja_f (L : List Mb) (n : Nat) (hn : L.length = n) (hb : n ≤ 1000000) (nm cd : ByteArray) (no : Int) (hm : mmB L = true) (hk : akB nm no cd = true) (i : Nat) (hix : ixN L nm = i) (nm2 sec : ByteArray) (nd nq : Int) (hq : L[i]? = some ⟨nm2, sec, nd, nq⟩) (hcd : cd = acS sec nm no) (hl : nq < no) (hd : nd = -1) (hfr : frN L < 0) : ACalls Tryz.prog 19 [.slice (some ⟨0, 0, none⟩) n n, .agg #[.string nm, .int .i64 no, .string cd]] [some ⟨L.flatMap mbC, false, 4⟩] (.tuple #[.slice none 0 0, .agg #[.string ⟨#[]⟩, .int .i64 0, .int .i64 0, .string ⟨#[]⟩], .int .i64 13]) [none] := by
  have HM : ACalls Tryz.prog 21 [.slice (some ⟨0, 0, none⟩) n n] [some ⟨L.flatMap mbC, false, 4⟩] (.int .i64 0) [none] := by have h := ac_jMembers L n hn hb; rw [hm] at h; exact h
  have HK := ac_asks nm no cd true hk
  have HS := srch_hit L n hn hb nm hm i hix _ hq
  obtain ⟨hk1, hk2, hk3⟩ := akB_t hk
  have hk4 := nmB_t hk1
  have hs2 := scB_t (mb1_t (and_t (gdN_at hm (by have := (List.getElem?_eq_some_iff.1 hq).1; omega) hq)).1).2.1
  have hg2 := (mb1_t (and_t (gdN_at hm (by have := (List.getElem?_eq_some_iff.1 hq).1; omega) hq)).1).2.2
  have hin : i < n := by have := (List.getElem?_eq_some_iff.1 hq).1; omega
  dsimp only at hs2 hg2
  have HD := ac_code1 sec askW nm no (by omega) (by decide) (by omega) (by omega) (by omega)
  have e1 : cdS sec (tx1 askW nm no) = acS sec nm no := rfl
  try rw [e1] at HD
  obtain ⟨C, hC⟩ : ∃ C, acS sec nm no = C := ⟨_, rfl⟩
  rw [hC] at HD hcd
  clear hC e1
  replace hcd : decide (cd = C) = true := decide_eq_true hcd
  have HFR := ac_free L n hn hb
  obtain ⟨f, hf⟩ : ∃ f, frN L = f := ⟨_, rfl⟩
  rw [hf] at HFR hfr
  clear hf
  refine acalls_law Tryz.func19 rfl rfl rfl ?_
  repeat' first | intro h1 | intro h1 | refine st (h := ok_not_dec2 rfl) ?_ | refine sd (h := ok_not_dec2 rfl) ?_ | refine st (h := ok_load_rowsE (f := mbC) (cs := [.string nm2, .string sec, .int .i64 nd, .int .i64 nq]) i (fun _ => rfl) hq rfl rfl rfl rfl (by omega)) ?_ | refine sdl (h := ok_load_rowsE (f := mbC) (cs := [.string nm2, .string sec, .int .i64 nd, .int .i64 nq]) i (fun _ => rfl) hq rfl rfl rfl rfl (by omega)) ?_ | refine sd (h := ok_load_rowsE (f := mbC) (cs := [.string nm2, .string sec, .int .i64 nd, .int .i64 nq]) i (fun _ => rfl) hq rfl rfl rfl rfl (by omega)) ?_ | refine st (h := ok_str_neqE rfl rfl hcd) ?_ | refine sd (h := ok_str_neqE rfl rfl hcd) ?_ | refine st ?_ | refine stRW [0] HM ?_ | refine sdRW [0] HM ?_ | refine st_call (HK) ?_ | refine sd_call (HK) ?_ | refine stRW [0] HS ?_ | refine sdRW [0] HS ?_ | refine sdRW [4] HD ?_ | refine stRW [4] HD ?_ | refine sdRW [5] HD ?_ | refine stRW [5] HD ?_ | refine stRW [0] HFR ?_ | refine sdRW [0] HFR ?_ | refine st_call (ac_adf _) ?_ | refine sd_call (ac_adf _) ?_ | refine stm ?_ | refine Ja ?_ | refine Jb ?_ | refine Jc ?_ | refine Jd ?_ | refine Je ?_ | refine Jf ?_ | refine Jg ?_ | refine Jh ?_ ?_ | refine Ji ?_ ?_ | refine Jj ?_ ?_ | refine run_nil ?_ | refine sd ?_ | refine sdl ?_ | refine sdm (n := 1) ?_ | refine sdm ?_ | refine sdb ?_ | refine Jk ?_ | refine Jl ?_ | refine Jm ?_ | refine Jn ?_ ?_ | refine Jo ?_ ?_ | refine Jp ?_ ?_ | refine rund_nil ?_ | refine Jz ?_ | refine Jw ?_ | refine Jx (id := 10) [0,1,0,4,0,16,0,64,192,508,1023,2047] 12 ?_ | refine Jx (id := 23) [0,0,2,0,8,0,32,0,128,0,512,0,2048,0,8192,30720,65408,131070,130945,524287,1048575] 19 ?_ | refine aw_block ?_ | refine Jq ?_ | refine Jr ?_ | refine Js ?_ | refine Jt ?_ | refine Ju ?_ ?_ | refine Jv ?_ ?_ | refine Jy ?_ | refine aw_exit ?_ | refine aw_ret ?_ | refine pp_ret ?_ | refine pp_normal ?_
  all_goals first
    | rfl
    | (exfalso; omega)
    | (simp [retOf]; done)
    | (exfalso; simp_all; done)
    | (exfalso; simp only [Bool.not_eq_true', Bool.not_eq_false', decide_eq_true_eq, decide_eq_false_iff_not, Bool.not_false, Bool.not_true] at *; omega)
set_option maxHeartbeats 16000000 in
theorem ja_oka (L : List Mb) (n : Nat) (hn : L.length = n) (hb : n ≤ 1000000) (nm cd : ByteArray) (no : Int) (hm : mmB L = true) (hk : akB nm no cd = true) (i : Nat) (hix : ixN L nm = i) (nm2 sec : ByteArray) (nd nq : Int) (hq : L[i]? = some ⟨nm2, sec, nd, nq⟩) (hcd : cd = acS sec nm no) (hl : nq ≤ no) (hl2 : ¬ (no = nq ∧ nd = -1)) (hd : nd = -1) (f : Int) (hfr : frN L = f) (hf1 : 1 ≤ f ∧ f ≤ 31) : ACalls Tryz.prog 19 [.slice (some ⟨0, 0, none⟩) n n, .agg #[.string nm, .int .i64 no, .string cd]] [some ⟨L.flatMap mbC, false, 4⟩] (.tuple #[.slice (some ⟨1, 0, none⟩) n n, .agg #[.string nm, .int .i64 no, .int .i64 f, .string (nsS sec nm no f)], .int .i64 0]) [none, some ⟨(L.set i ⟨nm2, sec, f, no⟩).flatMap mbC, true, 4⟩] := by
  have HM : ACalls Tryz.prog 21 [.slice (some ⟨0, 0, none⟩) n n] [some ⟨L.flatMap mbC, false, 4⟩] (.int .i64 0) [none] := by have h := ac_jMembers L n hn hb; rw [hm] at h; exact h
  have HK := ac_asks nm no cd true hk
  have HS := srch_hit L n hn hb nm hm i hix _ hq
  obtain ⟨hk1, hk2, hk3⟩ := akB_t hk
  have hk4 := nmB_t hk1
  have hs2 := scB_t (mb1_t (and_t (gdN_at hm (by have := (List.getElem?_eq_some_iff.1 hq).1; omega) hq)).1).2.1
  have hg2 := (mb1_t (and_t (gdN_at hm (by have := (List.getElem?_eq_some_iff.1 hq).1; omega) hq)).1).2.2
  have hin : i < n := by have := (List.getElem?_eq_some_iff.1 hq).1; omega
  dsimp only at hs2 hg2
  have HD := ac_code1 sec askW nm no (by omega) (by decide) (by omega) (by omega) (by omega)
  have e1 : cdS sec (tx1 askW nm no) = acS sec nm no := rfl
  try rw [e1] at HD
  obtain ⟨C, hC⟩ : ∃ C, acS sec nm no = C := ⟨_, rfl⟩
  rw [hC] at HD hcd
  clear hC e1
  replace hcd : decide (cd = C) = true := decide_eq_true hcd
  have HFR := ac_free L n hn hb
  rw [hfr] at HFR
  have HD2 := ac_code2 sec ansW nm no f (by omega) (by decide) (by omega) (by omega) (by omega) (by omega) (by omega)
  have e1 : cdS sec (tx2 ansW nm no f) = nsS sec nm no f := rfl
  try rw [e1] at HD2
  obtain ⟨C2, hC⟩ : ∃ C2, nsS sec nm no f = C2 := ⟨_, rfl⟩
  rw [hC] at HD2 ⊢
  clear hC e1
  have HCL := ac_clM L n hn hb (by omega)
  have hlen : i < L.length := by omega
  refine acalls_of_aw Tryz.func19 rfl rfl ?_
  repeat' first | intro h1 | intro h1 | refine st (h := ok_not_dec2 rfl) ?_ | refine sd (h := ok_not_dec2 rfl) ?_ | refine st (h := ok_load_rowsE (f := mbC) (cs := [.string nm2, .string sec, .int .i64 nd, .int .i64 nq]) i (fun _ => rfl) hq rfl rfl rfl rfl (by omega)) ?_ | refine sdl (h := ok_load_rowsE (f := mbC) (cs := [.string nm2, .string sec, .int .i64 nd, .int .i64 nq]) i (fun _ => rfl) hq rfl rfl rfl rfl (by omega)) ?_ | refine sd (h := ok_load_rowsE (f := mbC) (cs := [.string nm2, .string sec, .int .i64 nd, .int .i64 nq]) i (fun _ => rfl) hq rfl rfl rfl rfl (by omega)) ?_ | refine st (h := ok_str_neqE rfl rfl hcd) ?_ | refine sd (h := ok_str_neqE rfl rfl hcd) ?_ | refine stm (h := ok_storeN (vs := mbC ⟨nm2, sec, f, no⟩) (cs' := (L.set i ⟨nm2, sec, f, no⟩).flatMap mbC) rfl rfl (ListR.refl _) rfl rfl rfl rfl (splice_rows (n := 4) (f := mbC) (x := ⟨nm2, sec, f, no⟩) (fun _ => rfl) (by first | rfl | (rw [Nat.zero_add]; rfl)) (by omega)) (by ((repeat constructor); first | done | fail)) rfl) ?_ | refine sdb (h := ok_storeN (vs := mbC ⟨nm2, sec, f, no⟩) (cs' := (L.set i ⟨nm2, sec, f, no⟩).flatMap mbC) rfl rfl (ListR.refl _) rfl rfl rfl rfl (splice_rows (n := 4) (f := mbC) (x := ⟨nm2, sec, f, no⟩) (fun _ => rfl) (by first | rfl | (rw [Nat.zero_add]; rfl)) (by omega)) (by ((repeat constructor); first | done | fail)) rfl) ?_ | refine st ?_ | refine stRW [0] HM ?_ | refine sdRW [0] HM ?_ | refine st_call (HK) ?_ | refine sd_call (HK) ?_ | refine stRW [0] HS ?_ | refine sdRW [0] HS ?_ | refine sdRW [4] HD ?_ | refine stRW [4] HD ?_ | refine sdRW [5] HD ?_ | refine stRW [5] HD ?_ | refine sdRW [6] HD2 ?_ | refine stRW [6] HD2 ?_ | refine sdRW [5] HD2 ?_ | refine stRW [5] HD2 ?_ | refine sdRW [7] HD2 ?_ | refine stRW [7] HD2 ?_ | refine stRW [0] HFR ?_ | refine sdRW [0] HFR ?_ | refine stMW [0] HCL ?_ | refine stm ?_ | refine Ja ?_ | refine Jb ?_ | refine Jc ?_ | refine Jd ?_ | refine Je ?_ | refine Jf ?_ | refine Jg ?_ | refine Jh ?_ ?_ | refine Ji ?_ ?_ | refine Jj ?_ ?_ | refine run_nil ?_ | refine sd ?_ | refine sdl ?_ | refine sdm (n := 1) ?_ | refine sdm ?_ | refine sdb ?_ | refine Jk ?_ | refine Jl ?_ | refine Jm ?_ | refine Jn ?_ ?_ | refine Jo ?_ ?_ | refine Jp ?_ ?_ | refine rund_nil ?_ | refine Jz ?_ | refine Jw ?_ | refine Jx (id := 10) [0,1,0,4,0,16,0,64,192,508,1023,2047] 12 ?_ | refine Jx (id := 23) [0,0,2,0,8,0,32,0,128,0,512,0,2048,0,8192,30720,65408,131070,130945,524287,1048575] 19 ?_ | refine aw_block ?_ | refine Jq ?_ | refine Jr ?_ | refine Js ?_ | refine Jt ?_ | refine Ju ?_ ?_ | refine Jv ?_ ?_ | refine Jy ?_ | refine aw_exit ?_ | refine aw_ret ?_ | refine pp_ret ?_ | refine pp_normal ?_
  all_goals first | exact pm_ret _ (renumD [0, 5]) rfl | (exfalso; omega)
set_option maxHeartbeats 16000000 in
theorem ja_okb (L : List Mb) (n : Nat) (hn : L.length = n) (hb : n ≤ 1000000) (nm cd : ByteArray) (no : Int) (hm : mmB L = true) (hk : akB nm no cd = true) (i : Nat) (hix : ixN L nm = i) (nm2 sec : ByteArray) (nd nq : Int) (hq : L[i]? = some ⟨nm2, sec, nd, nq⟩) (hcd : cd = acS sec nm no) (hl : nq ≤ no) (hl2 : ¬ (no = nq ∧ nd = -1)) (hd : nd ≠ -1) : ACalls Tryz.prog 19 [.slice (some ⟨0, 0, none⟩) n n, .agg #[.string nm, .int .i64 no, .string cd]] [some ⟨L.flatMap mbC, false, 4⟩] (.tuple #[.slice (some ⟨1, 0, none⟩) n n, .agg #[.string nm, .int .i64 no, .int .i64 nd, .string (nsS sec nm no nd)], .int .i64 0]) [none, some ⟨(L.set i ⟨nm2, sec, nd, no⟩).flatMap mbC, true, 4⟩] := by
  have HM : ACalls Tryz.prog 21 [.slice (some ⟨0, 0, none⟩) n n] [some ⟨L.flatMap mbC, false, 4⟩] (.int .i64 0) [none] := by have h := ac_jMembers L n hn hb; rw [hm] at h; exact h
  have HK := ac_asks nm no cd true hk
  have HS := srch_hit L n hn hb nm hm i hix _ hq
  obtain ⟨hk1, hk2, hk3⟩ := akB_t hk
  have hk4 := nmB_t hk1
  have hs2 := scB_t (mb1_t (and_t (gdN_at hm (by have := (List.getElem?_eq_some_iff.1 hq).1; omega) hq)).1).2.1
  have hg2 := (mb1_t (and_t (gdN_at hm (by have := (List.getElem?_eq_some_iff.1 hq).1; omega) hq)).1).2.2
  have hin : i < n := by have := (List.getElem?_eq_some_iff.1 hq).1; omega
  dsimp only at hs2 hg2
  have HD := ac_code1 sec askW nm no (by omega) (by decide) (by omega) (by omega) (by omega)
  have e1 : cdS sec (tx1 askW nm no) = acS sec nm no := rfl
  try rw [e1] at HD
  obtain ⟨C, hC⟩ : ∃ C, acS sec nm no = C := ⟨_, rfl⟩
  rw [hC] at HD hcd
  clear hC e1
  replace hcd : decide (cd = C) = true := decide_eq_true hcd
  have HD2 := ac_code2 sec ansW nm no nd (by omega) (by decide) (by omega) (by omega) (by omega) (by omega) (by omega)
  have e1 : cdS sec (tx2 ansW nm no nd) = nsS sec nm no nd := rfl
  try rw [e1] at HD2
  obtain ⟨C2, hC⟩ : ∃ C2, nsS sec nm no nd = C2 := ⟨_, rfl⟩
  rw [hC] at HD2 ⊢
  clear hC e1
  have HCL := ac_clM L n hn hb (by omega)
  have hlen : i < L.length := by omega
  refine acalls_of_aw Tryz.func19 rfl rfl ?_
  repeat' first | intro h1 | intro h1 | refine st (h := ok_not_dec2 rfl) ?_ | refine sd (h := ok_not_dec2 rfl) ?_ | refine st (h := ok_load_rowsE (f := mbC) (cs := [.string nm2, .string sec, .int .i64 nd, .int .i64 nq]) i (fun _ => rfl) hq rfl rfl rfl rfl (by omega)) ?_ | refine sdl (h := ok_load_rowsE (f := mbC) (cs := [.string nm2, .string sec, .int .i64 nd, .int .i64 nq]) i (fun _ => rfl) hq rfl rfl rfl rfl (by omega)) ?_ | refine sd (h := ok_load_rowsE (f := mbC) (cs := [.string nm2, .string sec, .int .i64 nd, .int .i64 nq]) i (fun _ => rfl) hq rfl rfl rfl rfl (by omega)) ?_ | refine st (h := ok_str_neqE rfl rfl hcd) ?_ | refine sd (h := ok_str_neqE rfl rfl hcd) ?_ | refine stm (h := ok_storeN (vs := mbC ⟨nm2, sec, nd, no⟩) (cs' := (L.set i ⟨nm2, sec, nd, no⟩).flatMap mbC) rfl rfl (ListR.refl _) rfl rfl rfl rfl (splice_rows (n := 4) (f := mbC) (x := ⟨nm2, sec, nd, no⟩) (fun _ => rfl) (by first | rfl | (rw [Nat.zero_add]; rfl)) (by omega)) (by ((repeat constructor); first | done | fail)) rfl) ?_ | refine sdb (h := ok_storeN (vs := mbC ⟨nm2, sec, nd, no⟩) (cs' := (L.set i ⟨nm2, sec, nd, no⟩).flatMap mbC) rfl rfl (ListR.refl _) rfl rfl rfl rfl (splice_rows (n := 4) (f := mbC) (x := ⟨nm2, sec, nd, no⟩) (fun _ => rfl) (by first | rfl | (rw [Nat.zero_add]; rfl)) (by omega)) (by ((repeat constructor); first | done | fail)) rfl) ?_ | refine st ?_ | refine stRW [0] HM ?_ | refine sdRW [0] HM ?_ | refine st_call (HK) ?_ | refine sd_call (HK) ?_ | refine stRW [0] HS ?_ | refine sdRW [0] HS ?_ | refine sdRW [4] HD ?_ | refine stRW [4] HD ?_ | refine sdRW [5] HD ?_ | refine stRW [5] HD ?_ | refine sdRW [6] HD2 ?_ | refine stRW [6] HD2 ?_ | refine sdRW [5] HD2 ?_ | refine stRW [5] HD2 ?_ | refine sdRW [7] HD2 ?_ | refine stRW [7] HD2 ?_ | refine stRW [0] HFR ?_ | refine sdRW [0] HFR ?_ | refine stMW [0] HCL ?_ | refine stm ?_ | refine Ja ?_ | refine Jb ?_ | refine Jc ?_ | refine Jd ?_ | refine Je ?_ | refine Jf ?_ | refine Jg ?_ | refine Jh ?_ ?_ | refine Ji ?_ ?_ | refine Jj ?_ ?_ | refine run_nil ?_ | refine sd ?_ | refine sdl ?_ | refine sdm (n := 1) ?_ | refine sdm ?_ | refine sdb ?_ | refine Jk ?_ | refine Jl ?_ | refine Jm ?_ | refine Jn ?_ ?_ | refine Jo ?_ ?_ | refine Jp ?_ ?_ | refine rund_nil ?_ | refine Jz ?_ | refine Jw ?_ | refine Jx (id := 10) [0,1,0,4,0,16,0,64,192,508,1023,2047] 12 ?_ | refine Jx (id := 23) [0,0,2,0,8,0,32,0,128,0,512,0,2048,0,8192,30720,65408,131070,130945,524287,1048575] 19 ?_ | refine aw_block ?_ | refine Jq ?_ | refine Jr ?_ | refine Js ?_ | refine Jt ?_ | refine Ju ?_ ?_ | refine Jv ?_ ?_ | refine Jy ?_ | refine aw_exit ?_ | refine aw_ret ?_ | refine pp_ret ?_ | refine pp_normal ?_
  all_goals first | exact pm_ret _ (renumD [0, 5]) rfl | (exfalso; omega)
/-- The place of a name, found by the first ones. -/
def atI (L : List Mb) (nm : ByteArray) : Nat → Int
  | 0 => -1
  | i + 1 => if nmAt L i = nm then (i : Int) else atI L nm i
theorem atI_no {L : List Mb} {nm : ByteArray} : ∀ {i : Nat}, (∀ j, j < i → nmAt L j ≠ nm) → atI L nm i = -1
  | 0, _ => rfl
  | i + 1, h => by
    unfold atI
    rw [if_neg (h i (by omega))]
    exact atI_no fun j hj => h j (by omega)
theorem atI_hit {L : List Mb} {nm : ByteArray} {k : Nat} (hk : nmAt L k = nm) : ∀ {i : Nat}, k < i → (∀ j, j < i → nmAt L j = nm → j = k) → atI L nm i = k
  | 0, h, _ => by omega
  | i + 1, h, hu => by
    unfold atI
    by_cases e : nmAt L i = nm
    · rw [if_pos e, hu i (by omega) e]
    · rw [if_neg e]
      have : k ≠ i := fun h => e (h ▸ hk)
      exact atI_hit hk (by omega) fun j hj he => hu j (by omega) he
theorem atI_none {L : List Mb} {nm : ByteArray} (h : L[ixN L nm]? = none) : atI L nm L.length = -1 := atI_no fun j hj e => by
  obtain ⟨m, hm⟩ : ∃ m, L[j]? = some m := ⟨_, List.getElem?_eq_getElem hj⟩
  have : ixN L nm < L.length := List.findIdx_lt_length_of_exists ⟨m, List.mem_of_getElem? hm, by rw [nmAt_at hm] at e; exact decide_eq_true e⟩
  rw [List.getElem?_eq_getElem this] at h
  cases h
theorem atI_some {L : List Mb} (g : mmB L = true) {nm : ByteArray} {m : Mb} {k : Nat} (hk : ixN L nm = k) (h : L[k]? = some m) : atI L nm L.length = k := by
  subst hk
  have e := ix_get h
  have hk := (List.getElem?_eq_some_iff.1 h).1
  refine atI_hit (by rw [nmAt_at h, e]) hk fun j hj he => ?_
  exact gd_inj g (Nat.le_refl _) hj hk (by rw [he, nmAt_at h, e])
theorem ok_str_eqlE {P : Program} {ρ : Operand → Option Value} {m : Mem} {d : Option Tmp} {t : TypeId} {pp : String} {af : Array Edge} {g : Option (Nat × Bool)} {xt yt : TypeId} {x y : Operand} {s u : ByteArray} {c : Bool} (hx : ρ x = some (.string s)) (hy : ρ y = some (.string u)) (h : decide (s = u) = c) : OpOK P ⟨d, .binOp .eql xt x y yt, t, pp, af, g⟩ ρ m (.bool c) m := by
  subst h
  exact ok_str_eql (P := P) (m := m) (d := d) (t := t) (pp := pp) (af := af) (g := g) (xt := xt) (yt := yt) hx hy
end Go.Proofs.YtdbcbclapipgdaaGreatDoor
