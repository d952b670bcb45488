/- Join: requests that are refused (reference). -/
import Derived.Test.YtdbcbclapipgdaaGreatDoorVO
import Derived.Test.YtdbcbclapipgdaaGreatDoorJ
import Derived.Test.YtdbcbclapipgdaaGreatDoorC28
import Derived.Test.YtdbcbclapipgdaaGreatDoorC30
set_option linter.unusedVariables false
set_option linter.unusedSimpArgs false
namespace Go.Proofs.YtdbcbclapipgdaaGreatDoor
open Go Av
set_option maxRecDepth 20000
set_option maxHeartbeats 16000000 in
theorem ra_m (L : List Mb) (n : Nat) (hn : L.length = n) (hb : n ≤ 1000000) (nm cd : ByteArray) (no : Int) (hm : mmB L = false) : ACalls Tryz.prog 20 [.slice (some ⟨0, 0, none⟩) n n, .agg #[.string nm, .int .i64 no, .string cd]] [some ⟨L.flatMap mbC, false, 4⟩] (.tuple #[.slice none 0 0, .agg #[.string ⟨#[]⟩, .int .i64 0, .int .i64 0, .string ⟨#[]⟩], .int .i64 1]) [none] := by
  have HM : ACalls Tryz.prog 22 [.slice (some ⟨0, 0, none⟩) n n] [some ⟨L.flatMap mbC, false, 4⟩] (.int .i64 1) [none] := by have h := ac_rMembers L n hn hb; rw [hm] at h; exact h
  refine acalls_law Tryz.func20 rfl rfl rfl ?_
  repeat' first | intro h1 | intro h1 | refine st (h := ok_not_dec2 rfl) ?_ | refine sd (h := ok_not_dec2 rfl) ?_ | refine st ?_ | refine stRW [0] HM ?_ | refine sdRW [0] HM ?_ | refine stm ?_ | refine Ja ?_ | refine Jb ?_ | refine Jc ?_ | refine Jd ?_ | refine Je ?_ | refine Jf ?_ | refine Jg ?_ | refine Jh ?_ ?_ | refine Ji ?_ ?_ | refine Jj ?_ ?_ | refine run_nil ?_ | refine sd ?_ | refine sdl ?_ | refine sdm (n := 1) ?_ | refine sdm ?_ | refine sdb ?_ | refine Jk ?_ | refine Jl ?_ | refine Jm ?_ | refine Jn ?_ ?_ | refine Jo ?_ ?_ | refine Jp ?_ ?_ | refine rund_nil ?_ | refine Jz ?_ | refine Jw ?_ | refine Jx (id := 9) [0,0,3,7,15,0,32,127] 8 ?_ | refine Jx (id := 14) [0,1,0,4,0,28,63] 7 ?_ | refine Jx (id := 29) [0,0,1,7,15] 3 ?_ | refine aw_block ?_ | refine Jq ?_ | refine Jr ?_ | refine Js ?_ | refine Jt ?_ | refine Ju ?_ ?_ | refine Jv ?_ ?_ | refine Jy ?_ | refine aw_exit ?_ | refine aw_ret ?_ | refine pp_ret ?_ | refine pp_normal ?_
  all_goals first
    | rfl
    | (exfalso; omega)
    | (simp [retOf]; done)
    | (exfalso; simp_all; done)
    | (exfalso; simp only [Bool.not_eq_true', Bool.not_eq_false', decide_eq_true_eq, decide_eq_false_iff_not, Bool.not_false, Bool.not_true] at *; omega)
set_option maxHeartbeats 16000000 in
theorem ra_k (L : List Mb) (n : Nat) (hn : L.length = n) (hb : n ≤ 1000000) (nm cd : ByteArray) (no : Int) (hm : mmB L = true) (hk : akB nm no cd = false) : ACalls Tryz.prog 20 [.slice (some ⟨0, 0, none⟩) n n, .agg #[.string nm, .int .i64 no, .string cd]] [some ⟨L.flatMap mbC, false, 4⟩] (.tuple #[.slice none 0 0, .agg #[.string ⟨#[]⟩, .int .i64 0, .int .i64 0, .string ⟨#[]⟩], .int .i64 11]) [none] := by
  have HM : ACalls Tryz.prog 22 [.slice (some ⟨0, 0, none⟩) n n] [some ⟨L.flatMap mbC, false, 4⟩] (.int .i64 0) [none] := by have h := ac_rMembers L n hn hb; rw [hm] at h; exact h
  have HK := ac_AskForm nm no cd false hk
  refine acalls_law Tryz.func20 rfl rfl rfl ?_
  repeat' first | intro h1 | intro h1 | refine st (h := ok_not_dec2 rfl) ?_ | refine sd (h := ok_not_dec2 rfl) ?_ | refine st ?_ | refine stRW [0] HM ?_ | refine sdRW [0] HM ?_ | refine st_call (HK) ?_ | refine sd_call (HK) ?_ | refine stm ?_ | refine Ja ?_ | refine Jb ?_ | refine Jc ?_ | refine Jd ?_ | refine Je ?_ | refine Jf ?_ | refine Jg ?_ | refine Jh ?_ ?_ | refine Ji ?_ ?_ | refine Jj ?_ ?_ | refine run_nil ?_ | refine sd ?_ | refine sdl ?_ | refine sdm (n := 1) ?_ | refine sdm ?_ | refine sdb ?_ | refine Jk ?_ | refine Jl ?_ | refine Jm ?_ | refine Jn ?_ ?_ | refine Jo ?_ ?_ | refine Jp ?_ ?_ | refine rund_nil ?_ | refine Jz ?_ | refine Jw ?_ | refine Jx (id := 9) [0,0,3,7,15,0,32,127] 8 ?_ | refine Jx (id := 14) [0,1,0,4,0,28,63] 7 ?_ | refine Jx (id := 29) [0,0,1,7,15] 3 ?_ | refine aw_block ?_ | refine Jq ?_ | refine Jr ?_ | refine Js ?_ | refine Jt ?_ | refine Ju ?_ ?_ | refine Jv ?_ ?_ | refine Jy ?_ | refine aw_exit ?_ | refine aw_ret ?_ | refine pp_ret ?_ | refine pp_normal ?_
  all_goals first
    | rfl
    | (exfalso; omega)
    | (simp [retOf]; done)
    | (exfalso; simp_all; done)
    | (exfalso; simp only [Bool.not_eq_true', Bool.not_eq_false', decide_eq_true_eq, decide_eq_false_iff_not, Bool.not_false, Bool.not_true] at *; omega)
set_option maxHeartbeats 16000000 in
theorem ra_n (L : List Mb) (n : Nat) (hn : L.length = n) (hb : n ≤ 1000000) (nm cd : ByteArray) (no : Int) (hm : mmB L = true) (hk : akB nm no cd = true) (hq : L[ixN L nm]? = none) : ACalls Tryz.prog 20 [.slice (some ⟨0, 0, none⟩) n n, .agg #[.string nm, .int .i64 no, .string cd]] [some ⟨L.flatMap mbC, false, 4⟩] (.tuple #[.slice none 0 0, .agg #[.string ⟨#[]⟩, .int .i64 0, .int .i64 0, .string ⟨#[]⟩], .int .i64 7]) [none] := by
  have HM : ACalls Tryz.prog 22 [.slice (some ⟨0, 0, none⟩) n n] [some ⟨L.flatMap mbC, false, 4⟩] (.int .i64 0) [none] := by have h := ac_rMembers L n hn hb; rw [hm] at h; exact h
  have HK := ac_AskForm nm no cd true hk
  have hat : atI L nm n = -1 := by rw [← hn]; exact atI_none hq
  refine acalls_law Tryz.func20 rfl rfl rfl ?_
  repeat' first | intro h1 | intro h1 | refine st (h := ok_not_dec2 rfl) ?_ | refine sd (h := ok_not_dec2 rfl) ?_ | refine st ?_ | refine stRW [0] HM ?_ | refine sdRW [0] HM ?_ | refine st_call (HK) ?_ | refine sd_call (HK) ?_ | refine stm ?_ | refine Ja ?_ | refine Jb ?_ | refine Jc ?_ | refine Jd ?_ | refine Je ?_ | refine Jf ?_ | refine Jg ?_ | refine Jh ?_ ?_ | refine Ji ?_ ?_ | refine Jj ?_ ?_ | refine run_nil ?_ | refine sd ?_ | refine sdl ?_ | refine sdm (n := 1) ?_ | refine sdm ?_ | refine sdb ?_ | refine Jk ?_ | refine Jl ?_ | refine Jm ?_ | refine Jn ?_ ?_ | refine Jo ?_ ?_ | refine Jp ?_ ?_ | refine rund_nil ?_ | refine Jz ?_ | refine Jw ?_ | refine Jx (id := 9) [0,0,3,7,15,0,32,127] 8 ?_ | refine Jx (id := 14) [0,1,0,4,0,28,63] 7 ?_ | refine Jx (id := 29) [0,0,1,7,15] 3 ?_ | refine aw_block ?_ | refine Jq ?_ | refine Jr ?_ | refine Js ?_ | refine Jt ?_ | refine Ju ?_ ?_ | refine Jv ?_ ?_ | refine Jy ?_ | refine aw_exit ?_ | refine aw_ret ?_ | refine pp_ret ?_ | refine pp_normal ?_
  all_goals try (exfalso; omega)
  refine aw_loopg
    (S := fun y : Ki => [(0, .slice (some ⟨0, 0, none⟩) n n), (3, .pointer (some ⟨1, 0, none⟩)), (5, .pointer (some ⟨2, 0, none⟩)), (7, .int .i64 (atI L nm y.i)), (8, .int .i64 y.i)])
    (B := fun y : Ki => [some ⟨L.flatMap mbC, false, 4⟩, some ⟨[.string nm, .int .i64 no, .string cd], true, 1⟩, some ⟨[.string ⟨#[]⟩, .int .i64 0, .int .i64 0, .string ⟨#[]⟩], true, 1⟩])
    (R := fun y : Ki => y.i ≤ n)
    (μ := fun y : Ki => n - y.i) ⟨0⟩ (fitsD [0, 1, 2]) (Nat.zero_le _) ?_
  rintro ⟨j⟩ g1
  dsimp only at g1 ⊢
  by_cases hj : j < n
  · obtain ⟨⟨nm3, sec3, nd3, no3⟩, hq3⟩ : ∃ m, L[j]? = some m := ⟨_, List.getElem?_eq_getElem (by omega)⟩
    have hnx : atI L nm (j + 1) = if nm3 = nm then (j : Int) else atI L nm j := by
      show (if nmAt L j = nm then (j : Int) else atI L nm j) = _
      rw [nmAt_at hq3]
    obtain ⟨A, hA⟩ : ∃ A, atI L nm j = A := ⟨_, rfl⟩
    rw [hA] at hnx ⊢
    clear hA hat
    by_cases he : nm3 = nm
    · rw [if_pos he] at hnx
      replace he : decide (nm3 = nm) = true := decide_eq_true he
      repeat' first | intro h1 | intro h1 | refine st (h := ok_not_dec2 rfl) ?_ | refine sd (h := ok_not_dec2 rfl) ?_ | refine st (h := ok_str_eqlE rfl rfl he) ?_ | refine sd (h := ok_str_eqlE rfl rfl he) ?_ | refine sdl (v := .string nm3) (h := ok_load_rowcellE (f := mbC) (n := 4) j 0 (fun _ => rfl) hq3 rfl (by omega) rfl rfl rfl (by omega)) ?_ | refine sd (v := .string nm3) (h := ok_load_rowcellE (f := mbC) (n := 4) j 0 (fun _ => rfl) hq3 rfl (by omega) rfl rfl rfl (by omega)) ?_ | refine st (v := .string nm3) (h := ok_load_rowcellE (f := mbC) (n := 4) j 0 (fun _ => rfl) hq3 rfl (by omega) rfl rfl rfl (by omega)) ?_ | refine st ?_ | refine stm ?_ | refine Ja ?_ | refine Jb ?_ | refine Jc ?_ | refine Jd ?_ | refine Je ?_ | refine Jf ?_ | refine Jg ?_ | refine Jh ?_ ?_ | refine Ji ?_ ?_ | refine Jj ?_ ?_ | refine run_nil ?_ | refine sd ?_ | refine sdl ?_ | refine sdm (n := 1) ?_ | refine sdm ?_ | refine sdb ?_ | refine Jk ?_ | refine Jl ?_ | refine Jm ?_ | refine Jn ?_ ?_ | refine Jo ?_ ?_ | refine Jp ?_ ?_ | refine rund_nil ?_ | refine Jz ?_ | refine Jw ?_ | refine Jx (id := 9) [0,0,3,7,15,0,32,127] 8 ?_ | refine Jx (id := 14) [0,1,0,4,0,28,63] 7 ?_ | refine Jx (id := 29) [0,0,1,7,15] 3 ?_ | refine aw_block ?_ | refine Jq ?_ | refine Jr ?_ | refine Js ?_ | refine Jt ?_ | refine Ju ?_ ?_ | refine Jv ?_ ?_ | refine Jy ?_ | refine aw_exit ?_ | refine aw_ret ?_ | refine pp_ret ?_ | refine pp_normal ?_
      all_goals first | exact Exists.intro ⟨j + 1⟩ ⟨(by (dsimp only; rw [hnx]; exact fitsD [0, 1, 2])), hj, by dsimp only; omega⟩ | (exfalso; omega)
    · rw [if_neg he] at hnx
      replace he : decide (nm3 = nm) = false := decide_eq_false he
      repeat' first | intro h1 | intro h1 | refine st (h := ok_not_dec2 rfl) ?_ | refine sd (h := ok_not_dec2 rfl) ?_ | refine st (h := ok_str_eqlE rfl rfl he) ?_ | refine sd (h := ok_str_eqlE rfl rfl he) ?_ | refine sdl (v := .string nm3) (h := ok_load_rowcellE (f := mbC) (n := 4) j 0 (fun _ => rfl) hq3 rfl (by omega) rfl rfl rfl (by omega)) ?_ | refine sd (v := .string nm3) (h := ok_load_rowcellE (f := mbC) (n := 4) j 0 (fun _ => rfl) hq3 rfl (by omega) rfl rfl rfl (by omega)) ?_ | refine st (v := .string nm3) (h := ok_load_rowcellE (f := mbC) (n := 4) j 0 (fun _ => rfl) hq3 rfl (by omega) rfl rfl rfl (by omega)) ?_ | refine st ?_ | refine stm ?_ | refine Ja ?_ | refine Jb ?_ | refine Jc ?_ | refine Jd ?_ | refine Je ?_ | refine Jf ?_ | refine Jg ?_ | refine Jh ?_ ?_ | refine Ji ?_ ?_ | refine Jj ?_ ?_ | refine run_nil ?_ | refine sd ?_ | refine sdl ?_ | refine sdm (n := 1) ?_ | refine sdm ?_ | refine sdb ?_ | refine Jk ?_ | refine Jl ?_ | refine Jm ?_ | refine Jn ?_ ?_ | refine Jo ?_ ?_ | refine Jp ?_ ?_ | refine rund_nil ?_ | refine Jz ?_ | refine Jw ?_ | refine Jx (id := 9) [0,0,3,7,15,0,32,127] 8 ?_ | refine Jx (id := 14) [0,1,0,4,0,28,63] 7 ?_ | refine Jx (id := 29) [0,0,1,7,15] 3 ?_ | refine aw_block ?_ | refine Jq ?_ | refine Jr ?_ | refine Js ?_ | refine Jt ?_ | refine Ju ?_ ?_ | refine Jv ?_ ?_ | refine Jy ?_ | refine aw_exit ?_ | refine aw_ret ?_ | refine pp_ret ?_ | refine pp_normal ?_
      all_goals first | exact Exists.intro ⟨j + 1⟩ ⟨(by (dsimp only; rw [hnx]; exact fitsD [0, 1, 2])), hj, by dsimp only; omega⟩ | (exfalso; omega)
  obtain rfl : j = n := by omega
  rw [hat]
  clear hat g1
  repeat' first | intro h1 | intro h1 | refine st (h := ok_not_dec2 rfl) ?_ | refine sd (h := ok_not_dec2 rfl) ?_ | refine st ?_ | refine stRW [0] HM ?_ | refine sdRW [0] HM ?_ | refine st_call (HK) ?_ | refine sd_call (HK) ?_ | refine stm ?_ | refine Ja ?_ | refine Jb ?_ | refine Jc ?_ | refine Jd ?_ | refine Je ?_ | refine Jf ?_ | refine Jg ?_ | refine Jh ?_ ?_ | refine Ji ?_ ?_ | refine Jj ?_ ?_ | refine run_nil ?_ | refine sd ?_ | refine sdl ?_ | refine sdm (n := 1) ?_ | refine sdm ?_ | refine sdb ?_ | refine Jk ?_ | refine Jl ?_ | refine Jm ?_ | refine Jn ?_ ?_ | refine Jo ?_ ?_ | refine Jp ?_ ?_ | refine rund_nil ?_ | refine Jz ?_ | refine Jw ?_ | refine Jx (id := 9) [0,0,3,7,15,0,32,127] 8 ?_ | refine Jx (id := 14) [0,1,0,4,0,28,63] 7 ?_ | refine Jx (id := 29) [0,0,1,7,15] 3 ?_ | refine aw_block ?_ | refine Jq ?_ | refine Jr ?_ | refine Js ?_ | refine Jt ?_ | refine Ju ?_ ?_ | refine Jv ?_ ?_ | refine Jy ?_ | refine aw_exit ?_ | refine aw_ret ?_ | refine pp_ret ?_ | refine pp_normal ?_
  all_goals first
    | rfl
    | (exfalso; omega)
    | (simp [retOf]; done)
    | (exfalso; simp_all; done)
    | (exfalso; simp only [Bool.not_eq_true', Bool.not_eq_false', decide_eq_true_eq, decide_eq_false_iff_not, Bool.not_false, Bool.not_true] at *; omega)
set_option maxHeartbeats 16000000 in
theorem ra_p (L : List Mb) (n : Nat) (hn : L.length = n) (hb : n ≤ 1000000) (nm cd : ByteArray) (no : Int) (hm : mmB L = true) (hk : akB nm no cd = true) (i : Nat) (hix : ixN L nm = i) (nm2 sec : ByteArray) (nd nq : Int) (hq : L[i]? = some ⟨nm2, sec, nd, nq⟩) (hcd : cd ≠ acS sec nm no) : ACalls Tryz.prog 20 [.slice (some ⟨0, 0, none⟩) n n, .agg #[.string nm, .int .i64 no, .string cd]] [some ⟨L.flatMap mbC, false, 4⟩] (.tuple #[.slice none 0 0, .agg #[.string ⟨#[]⟩, .int .i64 0, .int .i64 0, .string ⟨#[]⟩], .int .i64 20]) [none] := by
  have HM : ACalls Tryz.prog 22 [.slice (some ⟨0, 0, none⟩) n n] [some ⟨L.flatMap mbC, false, 4⟩] (.int .i64 0) [none] := by have h := ac_rMembers L n hn hb; rw [hm] at h; exact h
  have HK := ac_AskForm nm no cd true hk
  obtain ⟨hk1, hk2, hk3⟩ := akB_t hk
  have hk4 := nmB_t hk1
  have hs2 := scB_t (mb1_t (and_t (gdN_at hm (by have := (List.getElem?_eq_some_iff.1 hq).1; omega) hq)).1).2.1
  have hg2 := (mb1_t (and_t (gdN_at hm (by have := (List.getElem?_eq_some_iff.1 hq).1; omega) hq)).1).2.2
  have hin : i < n := by have := (List.getElem?_eq_some_iff.1 hq).1; omega
  dsimp only at hs2 hg2
  have hat : atI L nm n = i := by rw [← hn]; exact atI_some hm hix hq
  have HD := ac_AskCode sec nm cd no (by omega) (by omega) (by omega) (by omega)
  obtain ⟨C, hC⟩ : ∃ C, acS sec nm no = C := ⟨_, rfl⟩
  rw [hC] at HD hcd
  clear hC
  replace hcd : decide (cd = C) = false := decide_eq_false hcd
  refine acalls_law Tryz.func20 rfl rfl rfl ?_
  repeat' first | intro h1 | intro h1 | refine st (h := ok_not_dec2 rfl) ?_ | refine sd (h := ok_not_dec2 rfl) ?_ | refine st ?_ | refine stRW [0] HM ?_ | refine sdRW [0] HM ?_ | refine st_call (HK) ?_ | refine st_call (HD) ?_ | refine sd_call (HK) ?_ | refine sd_call (HD) ?_ | refine stm ?_ | refine Ja ?_ | refine Jb ?_ | refine Jc ?_ | refine Jd ?_ | refine Je ?_ | refine Jf ?_ | refine Jg ?_ | refine Jh ?_ ?_ | refine Ji ?_ ?_ | refine Jj ?_ ?_ | refine run_nil ?_ | refine sd ?_ | refine sdl ?_ | refine sdm (n := 1) ?_ | refine sdm ?_ | refine sdb ?_ | refine Jk ?_ | refine Jl ?_ | refine Jm ?_ | refine Jn ?_ ?_ | refine Jo ?_ ?_ | refine Jp ?_ ?_ | refine rund_nil ?_ | refine Jz ?_ | refine Jw ?_ | refine Jx (id := 9) [0,0,3,7,15,0,32,127] 8 ?_ | refine Jx (id := 14) [0,1,0,4,0,28,63] 7 ?_ | refine Jx (id := 29) [0,0,1,7,15] 3 ?_ | refine aw_block ?_ | refine Jq ?_ | refine Jr ?_ | refine Js ?_ | refine Jt ?_ | refine Ju ?_ ?_ | refine Jv ?_ ?_ | refine Jy ?_ | refine aw_exit ?_ | refine aw_ret ?_ | refine pp_ret ?_ | refine pp_normal ?_
  all_goals try (exfalso; omega)
  refine aw_loopg
    (S := fun y : Ki => [(0, .slice (some ⟨0, 0, none⟩) n n), (3, .pointer (some ⟨1, 0, none⟩)), (5, .pointer (some ⟨2, 0, none⟩)), (7, .int .i64 (atI L nm y.i)), (8, .int .i64 y.i)])
    (B := fun y : Ki => [some ⟨L.flatMap mbC, false, 4⟩, some ⟨[.string nm, .int .i64 no, .string cd], true, 1⟩, some ⟨[.string ⟨#[]⟩, .int .i64 0, .int .i64 0, .string ⟨#[]⟩], true, 1⟩])
    (R := fun y : Ki => y.i ≤ n)
    (μ := fun y : Ki => n - y.i) ⟨0⟩ (fitsD [0, 1, 2]) (Nat.zero_le _) ?_
  rintro ⟨j⟩ g1
  dsimp only at g1 ⊢
  by_cases hj : j < n
  · obtain ⟨⟨nm3, sec3, nd3, no3⟩, hq3⟩ : ∃ m, L[j]? = some m := ⟨_, List.getElem?_eq_getElem (by omega)⟩
    have hnx : atI L nm (j + 1) = if nm3 = nm then (j : Int) else atI L nm j := by
      show (if nmAt L j = nm then (j : Int) else atI L nm j) = _
      rw [nmAt_at hq3]
    obtain ⟨A, hA⟩ : ∃ A, atI L nm j = A := ⟨_, rfl⟩
    rw [hA] at hnx ⊢
    clear hA hat
    by_cases he : nm3 = nm
    · rw [if_pos he] at hnx
      replace he : decide (nm3 = nm) = true := decide_eq_true he
      repeat' first | intro h1 | intro h1 | refine st (h := ok_not_dec2 rfl) ?_ | refine sd (h := ok_not_dec2 rfl) ?_ | refine st (h := ok_str_eqlE rfl rfl he) ?_ | refine sd (h := ok_str_eqlE rfl rfl he) ?_ | refine sdl (v := .string nm3) (h := ok_load_rowcellE (f := mbC) (n := 4) j 0 (fun _ => rfl) hq3 rfl (by omega) rfl rfl rfl (by omega)) ?_ | refine sd (v := .string nm3) (h := ok_load_rowcellE (f := mbC) (n := 4) j 0 (fun _ => rfl) hq3 rfl (by omega) rfl rfl rfl (by omega)) ?_ | refine st (v := .string nm3) (h := ok_load_rowcellE (f := mbC) (n := 4) j 0 (fun _ => rfl) hq3 rfl (by omega) rfl rfl rfl (by omega)) ?_ | refine st ?_ | refine stm ?_ | refine Ja ?_ | refine Jb ?_ | refine Jc ?_ | refine Jd ?_ | refine Je ?_ | refine Jf ?_ | refine Jg ?_ | refine Jh ?_ ?_ | refine Ji ?_ ?_ | refine Jj ?_ ?_ | refine run_nil ?_ | refine sd ?_ | refine sdl ?_ | refine sdm (n := 1) ?_ | refine sdm ?_ | refine sdb ?_ | refine Jk ?_ | refine Jl ?_ | refine Jm ?_ | refine Jn ?_ ?_ | refine Jo ?_ ?_ | refine Jp ?_ ?_ | refine rund_nil ?_ | refine Jz ?_ | refine Jw ?_ | refine Jx (id := 9) [0,0,3,7,15,0,32,127] 8 ?_ | refine Jx (id := 14) [0,1,0,4,0,28,63] 7 ?_ | refine Jx (id := 29) [0,0,1,7,15] 3 ?_ | refine aw_block ?_ | refine Jq ?_ | refine Jr ?_ | refine Js ?_ | refine Jt ?_ | refine Ju ?_ ?_ | refine Jv ?_ ?_ | refine Jy ?_ | refine aw_exit ?_ | refine aw_ret ?_ | refine pp_ret ?_ | refine pp_normal ?_
      all_goals first | exact Exists.intro ⟨j + 1⟩ ⟨(by (dsimp only; rw [hnx]; exact fitsD [0, 1, 2])), hj, by dsimp only; omega⟩ | (exfalso; omega)
    · rw [if_neg he] at hnx
      replace he : decide (nm3 = nm) = false := decide_eq_false he
      repeat' first | intro h1 | intro h1 | refine st (h := ok_not_dec2 rfl) ?_ | refine sd (h := ok_not_dec2 rfl) ?_ | refine st (h := ok_str_eqlE rfl rfl he) ?_ | refine sd (h := ok_str_eqlE rfl rfl he) ?_ | refine sdl (v := .string nm3) (h := ok_load_rowcellE (f := mbC) (n := 4) j 0 (fun _ => rfl) hq3 rfl (by omega) rfl rfl rfl (by omega)) ?_ | refine sd (v := .string nm3) (h := ok_load_rowcellE (f := mbC) (n := 4) j 0 (fun _ => rfl) hq3 rfl (by omega) rfl rfl rfl (by omega)) ?_ | refine st (v := .string nm3) (h := ok_load_rowcellE (f := mbC) (n := 4) j 0 (fun _ => rfl) hq3 rfl (by omega) rfl rfl rfl (by omega)) ?_ | refine st ?_ | refine stm ?_ | refine Ja ?_ | refine Jb ?_ | refine Jc ?_ | refine Jd ?_ | refine Je ?_ | refine Jf ?_ | refine Jg ?_ | refine Jh ?_ ?_ | refine Ji ?_ ?_ | refine Jj ?_ ?_ | refine run_nil ?_ | refine sd ?_ | refine sdl ?_ | refine sdm (n := 1) ?_ | refine sdm ?_ | refine sdb ?_ | refine Jk ?_ | refine Jl ?_ | refine Jm ?_ | refine Jn ?_ ?_ | refine Jo ?_ ?_ | refine Jp ?_ ?_ | refine rund_nil ?_ | refine Jz ?_ | refine Jw ?_ | refine Jx (id := 9) [0,0,3,7,15,0,32,127] 8 ?_ | refine Jx (id := 14) [0,1,0,4,0,28,63] 7 ?_ | refine Jx (id := 29) [0,0,1,7,15] 3 ?_ | refine aw_block ?_ | refine Jq ?_ | refine Jr ?_ | refine Js ?_ | refine Jt ?_ | refine Ju ?_ ?_ | refine Jv ?_ ?_ | refine Jy ?_ | refine aw_exit ?_ | refine aw_ret ?_ | refine pp_ret ?_ | refine pp_normal ?_
      all_goals first | exact Exists.intro ⟨j + 1⟩ ⟨(by (dsimp only; rw [hnx]; exact fitsD [0, 1, 2])), hj, by dsimp only; omega⟩ | (exfalso; omega)
  obtain rfl : j = n := by omega
  rw [hat]
  clear hat g1
  repeat' first | intro h1 | intro h1 | refine st (h := ok_not_dec2 rfl) ?_ | refine sd (h := ok_not_dec2 rfl) ?_ | refine st (h := ok_load_rowsE (f := mbC) (cs := [.string nm2, .string sec, .int .i64 nd, .int .i64 nq]) i (fun _ => rfl) hq rfl rfl rfl rfl (by omega)) ?_ | refine sdl (h := ok_load_rowsE (f := mbC) (cs := [.string nm2, .string sec, .int .i64 nd, .int .i64 nq]) i (fun _ => rfl) hq rfl rfl rfl rfl (by omega)) ?_ | refine sd (h := ok_load_rowsE (f := mbC) (cs := [.string nm2, .string sec, .int .i64 nd, .int .i64 nq]) i (fun _ => rfl) hq rfl rfl rfl rfl (by omega)) ?_ | refine st (h := ok_str_neqE rfl rfl hcd) ?_ | refine sd (h := ok_str_neqE rfl rfl hcd) ?_ | refine st ?_ | refine stRW [0] HM ?_ | refine sdRW [0] HM ?_ | refine st_call (HK) ?_ | refine st_call (HD) ?_ | refine sd_call (HK) ?_ | refine sd_call (HD) ?_ | refine stm ?_ | refine Ja ?_ | refine Jb ?_ | refine Jc ?_ | refine Jd ?_ | refine Je ?_ | refine Jf ?_ | refine Jg ?_ | refine Jh ?_ ?_ | refine Ji ?_ ?_ | refine Jj ?_ ?_ | refine run_nil ?_ | refine sd ?_ | refine sdl ?_ | refine sdm (n := 1) ?_ | refine sdm ?_ | refine sdb ?_ | refine Jk ?_ | refine Jl ?_ | refine Jm ?_ | refine Jn ?_ ?_ | refine Jo ?_ ?_ | refine Jp ?_ ?_ | refine rund_nil ?_ | refine Jz ?_ | refine Jw ?_ | refine Jx (id := 9) [0,0,3,7,15,0,32,127] 8 ?_ | refine Jx (id := 14) [0,1,0,4,0,28,63] 7 ?_ | refine Jx (id := 29) [0,0,1,7,15] 3 ?_ | refine aw_block ?_ | refine Jq ?_ | refine Jr ?_ | refine Js ?_ | refine Jt ?_ | refine Ju ?_ ?_ | refine Jv ?_ ?_ | refine Jy ?_ | refine aw_exit ?_ | refine aw_ret ?_ | refine pp_ret ?_ | refine pp_normal ?_
  all_goals first
    | rfl
    | (exfalso; omega)
    | (simp [retOf]; done)
    | (exfalso; simp_all; done)
    | (exfalso; simp only [Bool.not_eq_true', Bool.not_eq_false', decide_eq_true_eq, decide_eq_false_iff_not, Bool.not_false, Bool.not_true] at *; omega)
set_option maxHeartbeats 16000000 in
theorem ra_l (L : List Mb) (n : Nat) (hn : L.length = n) (hb : n ≤ 1000000) (nm cd : ByteArray) (no : Int) (hm : mmB L = true) (hk : akB nm no cd = true) (i : Nat) (hix : ixN L nm = i) (nm2 sec : ByteArray) (nd nq : Int) (hq : L[i]? = some ⟨nm2, sec, nd, nq⟩) (hcd : cd = acS sec nm no) (hl : no < nq) : ACalls Tryz.prog 20 [.slice (some ⟨0, 0, none⟩) n n, .agg #[.string nm, .int .i64 no, .string cd]] [some ⟨L.flatMap mbC, false, 4⟩] (.tuple #[.slice none 0 0, .agg #[.string ⟨#[]⟩, .int .i64 0, .int .i64 0, .string ⟨#[]⟩], .int .i64 15]) [none] := by
  have HM : ACalls Tryz.prog 22 [.slice (some ⟨0, 0, none⟩) n n] [some ⟨L.flatMap mbC, false, 4⟩] (.int .i64 0) [none] := by have h := ac_rMembers L n hn hb; rw [hm] at h; exact h
  have HK := ac_AskForm nm no cd true hk
  obtain ⟨hk1, hk2, hk3⟩ := akB_t hk
  have hk4 := nmB_t hk1
  have hs2 := scB_t (mb1_t (and_t (gdN_at hm (by have := (List.getElem?_eq_some_iff.1 hq).1; omega) hq)).1).2.1
  have hg2 := (mb1_t (and_t (gdN_at hm (by have := (List.getElem?_eq_some_iff.1 hq).1; omega) hq)).1).2.2
  have hin : i < n := by have := (List.getElem?_eq_some_iff.1 hq).1; omega
  dsimp only at hs2 hg2
  have hat : atI L nm n = i := by rw [← hn]; exact atI_some hm hix hq
  have HD := ac_AskCode sec nm cd no (by omega) (by omega) (by omega) (by omega)
  obtain ⟨C, hC⟩ : ∃ C, acS sec nm no = C := ⟨_, rfl⟩
  rw [hC] at HD hcd
  clear hC
  replace hcd : decide (cd = C) = true := decide_eq_true hcd
  refine acalls_law Tryz.func20 rfl rfl rfl ?_
  repeat' first | intro h1 | intro h1 | refine st (h := ok_not_dec2 rfl) ?_ | refine sd (h := ok_not_dec2 rfl) ?_ | refine st ?_ | refine stRW [0] HM ?_ | refine sdRW [0] HM ?_ | refine st_call (HK) ?_ | refine st_call (HD) ?_ | refine sd_call (HK) ?_ | refine sd_call (HD) ?_ | refine stm ?_ | refine Ja ?_ | refine Jb ?_ | refine Jc ?_ | refine Jd ?_ | refine Je ?_ | refine Jf ?_ | refine Jg ?_ | refine Jh ?_ ?_ | refine Ji ?_ ?_ | refine Jj ?_ ?_ | refine run_nil ?_ | refine sd ?_ | refine sdl ?_ | refine sdm (n := 1) ?_ | refine sdm ?_ | refine sdb ?_ | refine Jk ?_ | refine Jl ?_ | refine Jm ?_ | refine Jn ?_ ?_ | refine Jo ?_ ?_ | refine Jp ?_ ?_ | refine rund_nil ?_ | refine Jz ?_ | refine Jw ?_ | refine Jx (id := 9) [0,0,3,7,15,0,32,127] 8 ?_ | refine Jx (id := 14) [0,1,0,4,0,28,63] 7 ?_ | refine Jx (id := 29) [0,0,1,7,15] 3 ?_ | refine aw_block ?_ | refine Jq ?_ | refine Jr ?_ | refine Js ?_ | refine Jt ?_ | refine Ju ?_ ?_ | refine Jv ?_ ?_ | refine Jy ?_ | refine aw_exit ?_ | refine aw_ret ?_ | refine pp_ret ?_ | refine pp_normal ?_
  all_goals try (exfalso; omega)
  refine aw_loopg
    (S := fun y : Ki => [(0, .slice (some ⟨0, 0, none⟩) n n), (3, .pointer (some ⟨1, 0, none⟩)), (5, .pointer (some ⟨2, 0, none⟩)), (7, .int .i64 (atI L nm y.i)), (8, .int .i64 y.i)])
    (B := fun y : Ki => [some ⟨L.flatMap mbC, false, 4⟩, some ⟨[.string nm, .int .i64 no, .string cd], true, 1⟩, some ⟨[.string ⟨#[]⟩, .int .i64 0, .int .i64 0, .string ⟨#[]⟩], true, 1⟩])
    (R := fun y : Ki => y.i ≤ n)
    (μ := fun y : Ki => n - y.i) ⟨0⟩ (fitsD [0, 1, 2]) (Nat.zero_le _) ?_
  rintro ⟨j⟩ g1
  dsimp only at g1 ⊢
  by_cases hj : j < n
  · obtain ⟨⟨nm3, sec3, nd3, no3⟩, hq3⟩ : ∃ m, L[j]? = some m := ⟨_, List.getElem?_eq_getElem (by omega)⟩
    have hnx : atI L nm (j + 1) = if nm3 = nm then (j : Int) else atI L nm j := by
      show (if nmAt L j = nm then (j : Int) else atI L nm j) = _
      rw [nmAt_at hq3]
    obtain ⟨A, hA⟩ : ∃ A, atI L nm j = A := ⟨_, rfl⟩
    rw [hA] at hnx ⊢
    clear hA hat
    by_cases he : nm3 = nm
    · rw [if_pos he] at hnx
      replace he : decide (nm3 = nm) = true := decide_eq_true he
      repeat' first | intro h1 | intro h1 | refine st (h := ok_not_dec2 rfl) ?_ | refine sd (h := ok_not_dec2 rfl) ?_ | refine st (h := ok_str_eqlE rfl rfl he) ?_ | refine sd (h := ok_str_eqlE rfl rfl he) ?_ | refine sdl (v := .string nm3) (h := ok_load_rowcellE (f := mbC) (n := 4) j 0 (fun _ => rfl) hq3 rfl (by omega) rfl rfl rfl (by omega)) ?_ | refine sd (v := .string nm3) (h := ok_load_rowcellE (f := mbC) (n := 4) j 0 (fun _ => rfl) hq3 rfl (by omega) rfl rfl rfl (by omega)) ?_ | refine st (v := .string nm3) (h := ok_load_rowcellE (f := mbC) (n := 4) j 0 (fun _ => rfl) hq3 rfl (by omega) rfl rfl rfl (by omega)) ?_ | refine st ?_ | refine stm ?_ | refine Ja ?_ | refine Jb ?_ | refine Jc ?_ | refine Jd ?_ | refine Je ?_ | refine Jf ?_ | refine Jg ?_ | refine Jh ?_ ?_ | refine Ji ?_ ?_ | refine Jj ?_ ?_ | refine run_nil ?_ | refine sd ?_ | refine sdl ?_ | refine sdm (n := 1) ?_ | refine sdm ?_ | refine sdb ?_ | refine Jk ?_ | refine Jl ?_ | refine Jm ?_ | refine Jn ?_ ?_ | refine Jo ?_ ?_ | refine Jp ?_ ?_ | refine rund_nil ?_ | refine Jz ?_ | refine Jw ?_ | refine Jx (id := 9) [0,0,3,7,15,0,32,127] 8 ?_ | refine Jx (id := 14) [0,1,0,4,0,28,63] 7 ?_ | refine Jx (id := 29) [0,0,1,7,15] 3 ?_ | refine aw_block ?_ | refine Jq ?_ | refine Jr ?_ | refine Js ?_ | refine Jt ?_ | refine Ju ?_ ?_ | refine Jv ?_ ?_ | refine Jy ?_ | refine aw_exit ?_ | refine aw_ret ?_ | refine pp_ret ?_ | refine pp_normal ?_
      all_goals first | exact Exists.intro ⟨j + 1⟩ ⟨(by (dsimp only; rw [hnx]; exact fitsD [0, 1, 2])), hj, by dsimp only; omega⟩ | (exfalso; omega)
    · rw [if_neg he] at hnx
      replace he : decide (nm3 = nm) = false := decide_eq_false he
      repeat' first | intro h1 | intro h1 | refine st (h := ok_not_dec2 rfl) ?_ | refine sd (h := ok_not_dec2 rfl) ?_ | refine st (h := ok_str_eqlE rfl rfl he) ?_ | refine sd (h := ok_str_eqlE rfl rfl he) ?_ | refine sdl (v := .string nm3) (h := ok_load_rowcellE (f := mbC) (n := 4) j 0 (fun _ => rfl) hq3 rfl (by omega) rfl rfl rfl (by omega)) ?_ | refine sd (v := .string nm3) (h := ok_load_rowcellE (f := mbC) (n := 4) j 0 (fun _ => rfl) hq3 rfl (by omega) rfl rfl rfl (by omega)) ?_ | refine st (v := .string nm3) (h := ok_load_rowcellE (f := mbC) (n := 4) j 0 (fun _ => rfl) hq3 rfl (by omega) rfl rfl rfl (by omega)) ?_ | refine st ?_ | refine stm ?_ | refine Ja ?_ | refine Jb ?_ | refine Jc ?_ | refine Jd ?_ | refine Je ?_ | refine Jf ?_ | refine Jg ?_ | refine Jh ?_ ?_ | refine Ji ?_ ?_ | refine Jj ?_ ?_ | refine run_nil ?_ | refine sd ?_ | refine sdl ?_ | refine sdm (n := 1) ?_ | refine sdm ?_ | refine sdb ?_ | refine Jk ?_ | refine Jl ?_ | refine Jm ?_ | refine Jn ?_ ?_ | refine Jo ?_ ?_ | refine Jp ?_ ?_ | refine rund_nil ?_ | refine Jz ?_ | refine Jw ?_ | refine Jx (id := 9) [0,0,3,7,15,0,32,127] 8 ?_ | refine Jx (id := 14) [0,1,0,4,0,28,63] 7 ?_ | refine Jx (id := 29) [0,0,1,7,15] 3 ?_ | refine aw_block ?_ | refine Jq ?_ | refine Jr ?_ | refine Js ?_ | refine Jt ?_ | refine Ju ?_ ?_ | refine Jv ?_ ?_ | refine Jy ?_ | refine aw_exit ?_ | refine aw_ret ?_ | refine pp_ret ?_ | refine pp_normal ?_
      all_goals first | exact Exists.intro ⟨j + 1⟩ ⟨(by (dsimp only; rw [hnx]; exact fitsD [0, 1, 2])), hj, by dsimp only; omega⟩ | (exfalso; omega)
  obtain rfl : j = n := by omega
  rw [hat]
  clear hat g1
  repeat' first | intro h1 | intro h1 | refine st (h := ok_not_dec2 rfl) ?_ | refine sd (h := ok_not_dec2 rfl) ?_ | refine st (h := ok_load_rowsE (f := mbC) (cs := [.string nm2, .string sec, .int .i64 nd, .int .i64 nq]) i (fun _ => rfl) hq rfl rfl rfl rfl (by omega)) ?_ | refine sdl (h := ok_load_rowsE (f := mbC) (cs := [.string nm2, .string sec, .int .i64 nd, .int .i64 nq]) i (fun _ => rfl) hq rfl rfl rfl rfl (by omega)) ?_ | refine sd (h := ok_load_rowsE (f := mbC) (cs := [.string nm2, .string sec, .int .i64 nd, .int .i64 nq]) i (fun _ => rfl) hq rfl rfl rfl rfl (by omega)) ?_ | refine st (h := ok_str_neqE rfl rfl hcd) ?_ | refine sd (h := ok_str_neqE rfl rfl hcd) ?_ | refine st ?_ | refine stRW [0] HM ?_ | refine sdRW [0] HM ?_ | refine st_call (HK) ?_ | refine st_call (HD) ?_ | refine sd_call (HK) ?_ | refine sd_call (HD) ?_ | refine stm ?_ | refine Ja ?_ | refine Jb ?_ | refine Jc ?_ | refine Jd ?_ | refine Je ?_ | refine Jf ?_ | refine Jg ?_ | refine Jh ?_ ?_ | refine Ji ?_ ?_ | refine Jj ?_ ?_ | refine run_nil ?_ | refine sd ?_ | refine sdl ?_ | refine sdm (n := 1) ?_ | refine sdm ?_ | refine sdb ?_ | refine Jk ?_ | refine Jl ?_ | refine Jm ?_ | refine Jn ?_ ?_ | refine Jo ?_ ?_ | refine Jp ?_ ?_ | refine rund_nil ?_ | refine Jz ?_ | refine Jw ?_ | refine Jx (id := 9) [0,0,3,7,15,0,32,127] 8 ?_ | refine Jx (id := 14) [0,1,0,4,0,28,63] 7 ?_ | refine Jx (id := 29) [0,0,1,7,15] 3 ?_ | refine aw_block ?_ | refine Jq ?_ | refine Jr ?_ | refine Js ?_ | refine Jt ?_ | refine Ju ?_ ?_ | refine Jv ?_ ?_ | refine Jy ?_ | refine aw_exit ?_ | refine aw_ret ?_ | refine pp_ret ?_ | refine pp_normal ?_
  all_goals first
    | rfl
    | (exfalso; omega)
    | (simp [retOf]; done)
    | (exfalso; simp_all; done)
    | (exfalso; simp only [Bool.not_eq_true', Bool.not_eq_false', decide_eq_true_eq, decide_eq_false_iff_not, Bool.not_false, Bool.not_true] at *; omega)
set_option maxHeartbeats 16000000 in
theorem ra_s (L : List Mb) (n : Nat) (hn : L.length = n) (hb : n ≤ 1000000) (nm cd : ByteArray) (no : Int) (hm : mmB L = true) (hk : akB nm no cd = true) (i : Nat) (hix : ixN L nm = i) (nm2 sec : ByteArray) (nd nq : Int) (hq : L[i]? = some ⟨nm2, sec, nd, nq⟩) (hcd : cd = acS sec nm no) (hl : no = nq) (hd : nd = -1) : ACalls Tryz.prog 20 [.slice (some ⟨0, 0, none⟩) n n, .agg #[.string nm, .int .i64 no, .string cd]] [some ⟨L.flatMap mbC, false, 4⟩] (.tuple #[.slice none 0 0, .agg #[.string ⟨#[]⟩, .int .i64 0, .int .i64 0, .string ⟨#[]⟩], .int .i64 12]) [none] := by
  have HM : ACalls Tryz.prog 22 [.slice (some ⟨0, 0, none⟩) n n] [some ⟨L.flatMap mbC, false, 4⟩] (.int .i64 0) [none] := by have h := ac_rMembers L n hn hb; rw [hm] at h; exact h
  have HK := ac_AskForm nm no cd true hk
  obtain ⟨hk1, hk2, hk3⟩ := akB_t hk
  have hk4 := nmB_t hk1
  have hs2 := scB_t (mb1_t (and_t (gdN_at hm (by have := (List.getElem?_eq_some_iff.1 hq).1; omega) hq)).1).2.1
  have hg2 := (mb1_t (and_t (gdN_at hm (by have := (List.getElem?_eq_some_iff.1 hq).1; omega) hq)).1).2.2
  have hin : i < n := by have := (List.getElem?_eq_some_iff.1 hq).1; omega
  dsimp only at hs2 hg2
  have hat : atI L nm n = i := by rw [← hn]; exact atI_some hm hix hq
  have HD := ac_AskCode sec nm cd no (by omega) (by omega) (by omega) (by omega)
  obtain ⟨C, hC⟩ : ∃ C, acS sec nm no = C := ⟨_, rfl⟩
  rw [hC] at HD hcd
  clear hC
  replace hcd : decide (cd = C) = true := decide_eq_true hcd
  refine acalls_law Tryz.func20 rfl rfl rfl ?_
  repeat' first | intro h1 | intro h1 | refine st (h := ok_not_dec2 rfl) ?_ | refine sd (h := ok_not_dec2 rfl) ?_ | refine st ?_ | refine stRW [0] HM ?_ | refine sdRW [0] HM ?_ | refine st_call (HK) ?_ | refine st_call (HD) ?_ | refine sd_call (HK) ?_ | refine sd_call (HD) ?_ | refine stm ?_ | refine Ja ?_ | refine Jb ?_ | refine Jc ?_ | refine Jd ?_ | refine Je ?_ | refine Jf ?_ | refine Jg ?_ | refine Jh ?_ ?_ | refine Ji ?_ ?_ | refine Jj ?_ ?_ | refine run_nil ?_ | refine sd ?_ | refine sdl ?_ | refine sdm (n := 1) ?_ | refine sdm ?_ | refine sdb ?_ | refine Jk ?_ | refine Jl ?_ | refine Jm ?_ | refine Jn ?_ ?_ | refine Jo ?_ ?_ | refine Jp ?_ ?_ | refine rund_nil ?_ | refine Jz ?_ | refine Jw ?_ | refine Jx (id := 9) [0,0,3,7,15,0,32,127] 8 ?_ | refine Jx (id := 14) [0,1,0,4,0,28,63] 7 ?_ | refine Jx (id := 29) [0,0,1,7,15] 3 ?_ | refine aw_block ?_ | refine Jq ?_ | refine Jr ?_ | refine Js ?_ | refine Jt ?_ | refine Ju ?_ ?_ | refine Jv ?_ ?_ | refine Jy ?_ | refine aw_exit ?_ | refine aw_ret ?_ | refine pp_ret ?_ | refine pp_normal ?_
  all_goals try (exfalso; omega)
  refine aw_loopg
    (S := fun y : Ki => [(0, .slice (some ⟨0, 0, none⟩) n n), (3, .pointer (some ⟨1, 0, none⟩)), (5, .pointer (some ⟨2, 0, none⟩)), (7, .int .i64 (atI L nm y.i)), (8, .int .i64 y.i)])
    (B := fun y : Ki => [some ⟨L.flatMap mbC, false, 4⟩, some ⟨[.string nm, .int .i64 no, .string cd], true, 1⟩, some ⟨[.string ⟨#[]⟩, .int .i64 0, .int .i64 0, .string ⟨#[]⟩], true, 1⟩])
    (R := fun y : Ki => y.i ≤ n)
    (μ := fun y : Ki => n - y.i) ⟨0⟩ (fitsD [0, 1, 2]) (Nat.zero_le _) ?_
  rintro ⟨j⟩ g1
  dsimp only at g1 ⊢
  by_cases hj : j < n
  · obtain ⟨⟨nm3, sec3, nd3, no3⟩, hq3⟩ : ∃ m, L[j]? = some m := ⟨_, List.getElem?_eq_getElem (by omega)⟩
    have hnx : atI L nm (j + 1) = if nm3 = nm then (j : Int) else atI L nm j := by
      show (if nmAt L j = nm then (j : Int) else atI L nm j) = _
      rw [nmAt_at hq3]
    obtain ⟨A, hA⟩ : ∃ A, atI L nm j = A := ⟨_, rfl⟩
    rw [hA] at hnx ⊢
    clear hA hat
    by_cases he : nm3 = nm
    · rw [if_pos he] at hnx
      replace he : decide (nm3 = nm) = true := decide_eq_true he
      repeat' first | intro h1 | intro h1 | refine st (h := ok_not_dec2 rfl) ?_ | refine sd (h := ok_not_dec2 rfl) ?_ | refine st (h := ok_str_eqlE rfl rfl he) ?_ | refine sd (h := ok_str_eqlE rfl rfl he) ?_ | refine sdl (v := .string nm3) (h := ok_load_rowcellE (f := mbC) (n := 4) j 0 (fun _ => rfl) hq3 rfl (by omega) rfl rfl rfl (by omega)) ?_ | refine sd (v := .string nm3) (h := ok_load_rowcellE (f := mbC) (n := 4) j 0 (fun _ => rfl) hq3 rfl (by omega) rfl rfl rfl (by omega)) ?_ | refine st (v := .string nm3) (h := ok_load_rowcellE (f := mbC) (n := 4) j 0 (fun _ => rfl) hq3 rfl (by omega) rfl rfl rfl (by omega)) ?_ | refine st ?_ | refine stm ?_ | refine Ja ?_ | refine Jb ?_ | refine Jc ?_ | refine Jd ?_ | refine Je ?_ | refine Jf ?_ | refine Jg ?_ | refine Jh ?_ ?_ | refine Ji ?_ ?_ | refine Jj ?_ ?_ | refine run_nil ?_ | refine sd ?_ | refine sdl ?_ | refine sdm (n := 1) ?_ | refine sdm ?_ | refine sdb ?_ | refine Jk ?_ | refine Jl ?_ | refine Jm ?_ | refine Jn ?_ ?_ | refine Jo ?_ ?_ | refine Jp ?_ ?_ | refine rund_nil ?_ | refine Jz ?_ | refine Jw ?_ | refine Jx (id := 9) [0,0,3,7,15,0,32,127] 8 ?_ | refine Jx (id := 14) [0,1,0,4,0,28,63] 7 ?_ | refine Jx (id := 29) [0,0,1,7,15] 3 ?_ | refine aw_block ?_ | refine Jq ?_ | refine Jr ?_ | refine Js ?_ | refine Jt ?_ | refine Ju ?_ ?_ | refine Jv ?_ ?_ | refine Jy ?_ | refine aw_exit ?_ | refine aw_ret ?_ | refine pp_ret ?_ | refine pp_normal ?_
      all_goals first | exact Exists.intro ⟨j + 1⟩ ⟨(by (dsimp only; rw [hnx]; exact fitsD [0, 1, 2])), hj, by dsimp only; omega⟩ | (exfalso; omega)
    · rw [if_neg he] at hnx
      replace he : decide (nm3 = nm) = false := decide_eq_false he
      repeat' first | intro h1 | intro h1 | refine st (h := ok_not_dec2 rfl) ?_ | refine sd (h := ok_not_dec2 rfl) ?_ | refine st (h := ok_str_eqlE rfl rfl he) ?_ | refine sd (h := ok_str_eqlE rfl rfl he) ?_ | refine sdl (v := .string nm3) (h := ok_load_rowcellE (f := mbC) (n := 4) j 0 (fun _ => rfl) hq3 rfl (by omega) rfl rfl rfl (by omega)) ?_ | refine sd (v := .string nm3) (h := ok_load_rowcellE (f := mbC) (n := 4) j 0 (fun _ => rfl) hq3 rfl (by omega) rfl rfl rfl (by omega)) ?_ | refine st (v := .string nm3) (h := ok_load_rowcellE (f := mbC) (n := 4) j 0 (fun _ => rfl) hq3 rfl (by omega) rfl rfl rfl (by omega)) ?_ | refine st ?_ | refine stm ?_ | refine Ja ?_ | refine Jb ?_ | refine Jc ?_ | refine Jd ?_ | refine Je ?_ | refine Jf ?_ | refine Jg ?_ | refine Jh ?_ ?_ | refine Ji ?_ ?_ | refine Jj ?_ ?_ | refine run_nil ?_ | refine sd ?_ | refine sdl ?_ | refine sdm (n := 1) ?_ | refine sdm ?_ | refine sdb ?_ | refine Jk ?_ | refine Jl ?_ | refine Jm ?_ | refine Jn ?_ ?_ | refine Jo ?_ ?_ | refine Jp ?_ ?_ | refine rund_nil ?_ | refine Jz ?_ | refine Jw ?_ | refine Jx (id := 9) [0,0,3,7,15,0,32,127] 8 ?_ | refine Jx (id := 14) [0,1,0,4,0,28,63] 7 ?_ | refine Jx (id := 29) [0,0,1,7,15] 3 ?_ | refine aw_block ?_ | refine Jq ?_ | refine Jr ?_ | refine Js ?_ | refine Jt ?_ | refine Ju ?_ ?_ | refine Jv ?_ ?_ | refine Jy ?_ | refine aw_exit ?_ | refine aw_ret ?_ | refine pp_ret ?_ | refine pp_normal ?_
      all_goals first | exact Exists.intro ⟨j + 1⟩ ⟨(by (dsimp only; rw [hnx]; exact fitsD [0, 1, 2])), hj, by dsimp only; omega⟩ | (exfalso; omega)
  obtain rfl : j = n := by omega
  rw [hat]
  clear hat g1
  repeat' first | intro h1 | intro h1 | refine st (h := ok_not_dec2 rfl) ?_ | refine sd (h := ok_not_dec2 rfl) ?_ | refine st (h := ok_load_rowsE (f := mbC) (cs := [.string nm2, .string sec, .int .i64 nd, .int .i64 nq]) i (fun _ => rfl) hq rfl rfl rfl rfl (by omega)) ?_ | refine sdl (h := ok_load_rowsE (f := mbC) (cs := [.string nm2, .string sec, .int .i64 nd, .int .i64 nq]) i (fun _ => rfl) hq rfl rfl rfl rfl (by omega)) ?_ | refine sd (h := ok_load_rowsE (f := mbC) (cs := [.string nm2, .string sec, .int .i64 nd, .int .i64 nq]) i (fun _ => rfl) hq rfl rfl rfl rfl (by omega)) ?_ | refine st (h := ok_str_neqE rfl rfl hcd) ?_ | refine sd (h := ok_str_neqE rfl rfl hcd) ?_ | refine st ?_ | refine stRW [0] HM ?_ | refine sdRW [0] HM ?_ | refine st_call (HK) ?_ | refine st_call (HD) ?_ | refine sd_call (HK) ?_ | refine sd_call (HD) ?_ | refine stm ?_ | refine Ja ?_ | refine Jb ?_ | refine Jc ?_ | refine Jd ?_ | refine Je ?_ | refine Jf ?_ | refine Jg ?_ | refine Jh ?_ ?_ | refine Ji ?_ ?_ | refine Jj ?_ ?_ | refine run_nil ?_ | refine sd ?_ | refine sdl ?_ | refine sdm (n := 1) ?_ | refine sdm ?_ | refine sdb ?_ | refine Jk ?_ | refine Jl ?_ | refine Jm ?_ | refine Jn ?_ ?_ | refine Jo ?_ ?_ | refine Jp ?_ ?_ | refine rund_nil ?_ | refine Jz ?_ | refine Jw ?_ | refine Jx (id := 9) [0,0,3,7,15,0,32,127] 8 ?_ | refine Jx (id := 14) [0,1,0,4,0,28,63] 7 ?_ | refine Jx (id := 29) [0,0,1,7,15] 3 ?_ | refine aw_block ?_ | refine Jq ?_ | refine Jr ?_ | refine Js ?_ | refine Jt ?_ | refine Ju ?_ ?_ | refine Jv ?_ ?_ | refine Jy ?_ | refine aw_exit ?_ | refine aw_ret ?_ | refine pp_ret ?_ | refine pp_normal ?_
  all_goals first
    | rfl
    | (exfalso; omega)
    | (simp [retOf]; done)
    | (exfalso; simp_all; done)
    | (exfalso; simp only [Bool.not_eq_true', Bool.not_eq_false', decide_eq_true_eq, decide_eq_false_iff_not, Bool.not_false, Bool.not_true] at *; omega)
set_option maxHeartbeats 16000000 in
theorem ra_f (L : List Mb) (n : Nat) (hn : L.length = n) (hb : n ≤ 1000000) (nm cd : ByteArray) (no : Int) (hm : mmB L = true) (hk : akB nm no cd = true) (i : Nat) (hix : ixN L nm = i) (nm2 sec : ByteArray) (nd nq : Int) (hq : L[i]? = some ⟨nm2, sec, nd, nq⟩) (hcd : cd = acS sec nm no) (hl : nq < no) (hd : nd = -1) (hfr : frN L < 0) : ACalls Tryz.prog 20 [.slice (some ⟨0, 0, none⟩) n n, .agg #[.string nm, .int .i64 no, .string cd]] [some ⟨L.flatMap mbC, false, 4⟩] (.tuple #[.slice none 0 0, .agg #[.string ⟨#[]⟩, .int .i64 0, .int .i64 0, .string ⟨#[]⟩], .int .i64 13]) [none] := by
  have HM : ACalls Tryz.prog 22 [.slice (some ⟨0, 0, none⟩) n n] [some ⟨L.flatMap mbC, false, 4⟩] (.int .i64 0) [none] := by have h := ac_rMembers L n hn hb; rw [hm] at h; exact h
  have HK := ac_AskForm nm no cd true hk
  obtain ⟨hk1, hk2, hk3⟩ := akB_t hk
  have hk4 := nmB_t hk1
  have hs2 := scB_t (mb1_t (and_t (gdN_at hm (by have := (List.getElem?_eq_some_iff.1 hq).1; omega) hq)).1).2.1
  have hg2 := (mb1_t (and_t (gdN_at hm (by have := (List.getElem?_eq_some_iff.1 hq).1; omega) hq)).1).2.2
  have hin : i < n := by have := (List.getElem?_eq_some_iff.1 hq).1; omega
  dsimp only at hs2 hg2
  have hat : atI L nm n = i := by rw [← hn]; exact atI_some hm hix hq
  have HD := ac_AskCode sec nm cd no (by omega) (by omega) (by omega) (by omega)
  obtain ⟨C, hC⟩ : ∃ C, acS sec nm no = C := ⟨_, rfl⟩
  rw [hC] at HD hcd
  clear hC
  replace hcd : decide (cd = C) = true := decide_eq_true hcd
  have HFR := ac_rfree L n hn hb
  obtain ⟨f, hf⟩ : ∃ f, frN L = f := ⟨_, rfl⟩
  rw [hf] at HFR hfr
  clear hf
  refine acalls_law Tryz.func20 rfl rfl rfl ?_
  repeat' first | intro h1 | intro h1 | refine st (h := ok_not_dec2 rfl) ?_ | refine sd (h := ok_not_dec2 rfl) ?_ | refine st ?_ | refine stRW [0] HM ?_ | refine sdRW [0] HM ?_ | refine st_call (HK) ?_ | refine st_call (HD) ?_ | refine sd_call (HK) ?_ | refine sd_call (HD) ?_ | refine stRW [0] HFR ?_ | refine sdRW [0] HFR ?_ | refine stm ?_ | refine Ja ?_ | refine Jb ?_ | refine Jc ?_ | refine Jd ?_ | refine Je ?_ | refine Jf ?_ | refine Jg ?_ | refine Jh ?_ ?_ | refine Ji ?_ ?_ | refine Jj ?_ ?_ | refine run_nil ?_ | refine sd ?_ | refine sdl ?_ | refine sdm (n := 1) ?_ | refine sdm ?_ | refine sdb ?_ | refine Jk ?_ | refine Jl ?_ | refine Jm ?_ | refine Jn ?_ ?_ | refine Jo ?_ ?_ | refine Jp ?_ ?_ | refine rund_nil ?_ | refine Jz ?_ | refine Jw ?_ | refine Jx (id := 9) [0,0,3,7,15,0,32,127] 8 ?_ | refine Jx (id := 14) [0,1,0,4,0,28,63] 7 ?_ | refine Jx (id := 29) [0,0,1,7,15] 3 ?_ | refine aw_block ?_ | refine Jq ?_ | refine Jr ?_ | refine Js ?_ | refine Jt ?_ | refine Ju ?_ ?_ | refine Jv ?_ ?_ | refine Jy ?_ | refine aw_exit ?_ | refine aw_ret ?_ | refine pp_ret ?_ | refine pp_normal ?_
  all_goals try (exfalso; omega)
  refine aw_loopg
    (S := fun y : Ki => [(0, .slice (some ⟨0, 0, none⟩) n n), (3, .pointer (some ⟨1, 0, none⟩)), (5, .pointer (some ⟨2, 0, none⟩)), (7, .int .i64 (atI L nm y.i)), (8, .int .i64 y.i)])
    (B := fun y : Ki => [some ⟨L.flatMap mbC, false, 4⟩, some ⟨[.string nm, .int .i64 no, .string cd], true, 1⟩, some ⟨[.string ⟨#[]⟩, .int .i64 0, .int .i64 0, .string ⟨#[]⟩], true, 1⟩])
    (R := fun y : Ki => y.i ≤ n)
    (μ := fun y : Ki => n - y.i) ⟨0⟩ (fitsD [0, 1, 2]) (Nat.zero_le _) ?_
  rintro ⟨j⟩ g1
  dsimp only at g1 ⊢
  by_cases hj : j < n
  · obtain ⟨⟨nm3, sec3, nd3, no3⟩, hq3⟩ : ∃ m, L[j]? = some m := ⟨_, List.getElem?_eq_getElem (by omega)⟩
    have hnx : atI L nm (j + 1) = if nm3 = nm then (j : Int) else atI L nm j := by
      show (if nmAt L j = nm then (j : Int) else atI L nm j) = _
      rw [nmAt_at hq3]
    obtain ⟨A, hA⟩ : ∃ A, atI L nm j = A := ⟨_, rfl⟩
    rw [hA] at hnx ⊢
    clear hA hat
    by_cases he : nm3 = nm
    · rw [if_pos he] at hnx
      replace he : decide (nm3 = nm) = true := decide_eq_true he
      repeat' first | intro h1 | intro h1 | refine st (h := ok_not_dec2 rfl) ?_ | refine sd (h := ok_not_dec2 rfl) ?_ | refine st (h := ok_str_eqlE rfl rfl he) ?_ | refine sd (h := ok_str_eqlE rfl rfl he) ?_ | refine sdl (v := .string nm3) (h := ok_load_rowcellE (f := mbC) (n := 4) j 0 (fun _ => rfl) hq3 rfl (by omega) rfl rfl rfl (by omega)) ?_ | refine sd (v := .string nm3) (h := ok_load_rowcellE (f := mbC) (n := 4) j 0 (fun _ => rfl) hq3 rfl (by omega) rfl rfl rfl (by omega)) ?_ | refine st (v := .string nm3) (h := ok_load_rowcellE (f := mbC) (n := 4) j 0 (fun _ => rfl) hq3 rfl (by omega) rfl rfl rfl (by omega)) ?_ | refine st ?_ | refine stm ?_ | refine Ja ?_ | refine Jb ?_ | refine Jc ?_ | refine Jd ?_ | refine Je ?_ | refine Jf ?_ | refine Jg ?_ | refine Jh ?_ ?_ | refine Ji ?_ ?_ | refine Jj ?_ ?_ | refine run_nil ?_ | refine sd ?_ | refine sdl ?_ | refine sdm (n := 1) ?_ | refine sdm ?_ | refine sdb ?_ | refine Jk ?_ | refine Jl ?_ | refine Jm ?_ | refine Jn ?_ ?_ | refine Jo ?_ ?_ | refine Jp ?_ ?_ | refine rund_nil ?_ | refine Jz ?_ | refine Jw ?_ | refine Jx (id := 9) [0,0,3,7,15,0,32,127] 8 ?_ | refine Jx (id := 14) [0,1,0,4,0,28,63] 7 ?_ | refine Jx (id := 29) [0,0,1,7,15] 3 ?_ | refine aw_block ?_ | refine Jq ?_ | refine Jr ?_ | refine Js ?_ | refine Jt ?_ | refine Ju ?_ ?_ | refine Jv ?_ ?_ | refine Jy ?_ | refine aw_exit ?_ | refine aw_ret ?_ | refine pp_ret ?_ | refine pp_normal ?_
      all_goals first | exact Exists.intro ⟨j + 1⟩ ⟨(by (dsimp only; rw [hnx]; exact fitsD [0, 1, 2])), hj, by dsimp only; omega⟩ | (exfalso; omega)
    · rw [if_neg he] at hnx
      replace he : decide (nm3 = nm) = false := decide_eq_false he
      repeat' first | intro h1 | intro h1 | refine st (h := ok_not_dec2 rfl) ?_ | refine sd (h := ok_not_dec2 rfl) ?_ | refine st (h := ok_str_eqlE rfl rfl he) ?_ | refine sd (h := ok_str_eqlE rfl rfl he) ?_ | refine sdl (v := .string nm3) (h := ok_load_rowcellE (f := mbC) (n := 4) j 0 (fun _ => rfl) hq3 rfl (by omega) rfl rfl rfl (by omega)) ?_ | refine sd (v := .string nm3) (h := ok_load_rowcellE (f := mbC) (n := 4) j 0 (fun _ => rfl) hq3 rfl (by omega) rfl rfl rfl (by omega)) ?_ | refine st (v := .string nm3) (h := ok_load_rowcellE (f := mbC) (n := 4) j 0 (fun _ => rfl) hq3 rfl (by omega) rfl rfl rfl (by omega)) ?_ | refine st ?_ | refine stm ?_ | refine Ja ?_ | refine Jb ?_ | refine Jc ?_ | refine Jd ?_ | refine Je ?_ | refine Jf ?_ | refine Jg ?_ | refine Jh ?_ ?_ | refine Ji ?_ ?_ | refine Jj ?_ ?_ | refine run_nil ?_ | refine sd ?_ | refine sdl ?_ | refine sdm (n := 1) ?_ | refine sdm ?_ | refine sdb ?_ | refine Jk ?_ | refine Jl ?_ | refine Jm ?_ | refine Jn ?_ ?_ | refine Jo ?_ ?_ | refine Jp ?_ ?_ | refine rund_nil ?_ | refine Jz ?_ | refine Jw ?_ | refine Jx (id := 9) [0,0,3,7,15,0,32,127] 8 ?_ | refine Jx (id := 14) [0,1,0,4,0,28,63] 7 ?_ | refine Jx (id := 29) [0,0,1,7,15] 3 ?_ | refine aw_block ?_ | refine Jq ?_ | refine Jr ?_ | refine Js ?_ | refine Jt ?_ | refine Ju ?_ ?_ | refine Jv ?_ ?_ | refine Jy ?_ | refine aw_exit ?_ | refine aw_ret ?_ | refine pp_ret ?_ | refine pp_normal ?_
      all_goals first | exact Exists.intro ⟨j + 1⟩ ⟨(by (dsimp only; rw [hnx]; exact fitsD [0, 1, 2])), hj, by dsimp only; omega⟩ | (exfalso; omega)
  obtain rfl : j = n := by omega
  rw [hat]
  clear hat g1
  repeat' first | intro h1 | intro h1 | refine st (h := ok_not_dec2 rfl) ?_ | refine sd (h := ok_not_dec2 rfl) ?_ | refine st (h := ok_load_rowsE (f := mbC) (cs := [.string nm2, .string sec, .int .i64 nd, .int .i64 nq]) i (fun _ => rfl) hq rfl rfl rfl rfl (by omega)) ?_ | refine sdl (h := ok_load_rowsE (f := mbC) (cs := [.string nm2, .string sec, .int .i64 nd, .int .i64 nq]) i (fun _ => rfl) hq rfl rfl rfl rfl (by omega)) ?_ | refine sd (h := ok_load_rowsE (f := mbC) (cs := [.string nm2, .string sec, .int .i64 nd, .int .i64 nq]) i (fun _ => rfl) hq rfl rfl rfl rfl (by omega)) ?_ | refine st (h := ok_str_neqE rfl rfl hcd) ?_ | refine sd (h := ok_str_neqE rfl rfl hcd) ?_ | refine st ?_ | refine stRW [0] HM ?_ | refine sdRW [0] HM ?_ | refine st_call (HK) ?_ | refine st_call (HD) ?_ | refine sd_call (HK) ?_ | refine sd_call (HD) ?_ | refine stRW [0] HFR ?_ | refine sdRW [0] HFR ?_ | refine stm ?_ | refine Ja ?_ | refine Jb ?_ | refine Jc ?_ | refine Jd ?_ | refine Je ?_ | refine Jf ?_ | refine Jg ?_ | refine Jh ?_ ?_ | refine Ji ?_ ?_ | refine Jj ?_ ?_ | refine run_nil ?_ | refine sd ?_ | refine sdl ?_ | refine sdm (n := 1) ?_ | refine sdm ?_ | refine sdb ?_ | refine Jk ?_ | refine Jl ?_ | refine Jm ?_ | refine Jn ?_ ?_ | refine Jo ?_ ?_ | refine Jp ?_ ?_ | refine rund_nil ?_ | refine Jz ?_ | refine Jw ?_ | refine Jx (id := 9) [0,0,3,7,15,0,32,127] 8 ?_ | refine Jx (id := 14) [0,1,0,4,0,28,63] 7 ?_ | refine Jx (id := 29) [0,0,1,7,15] 3 ?_ | refine aw_block ?_ | refine Jq ?_ | refine Jr ?_ | refine Js ?_ | refine Jt ?_ | refine Ju ?_ ?_ | refine Jv ?_ ?_ | refine Jy ?_ | refine aw_exit ?_ | refine aw_ret ?_ | refine pp_ret ?_ | refine pp_normal ?_
  all_goals first
    | rfl
    | (exfalso; omega)
    | (simp [retOf]; done)
    | (exfalso; simp_all; done)
    | (exfalso; simp only [Bool.not_eq_true', Bool.not_eq_false', decide_eq_true_eq, decide_eq_false_iff_not, Bool.not_false, Bool.not_true] at *; omega)
end Go.Proofs.YtdbcbclapipgdaaGreatDoor
