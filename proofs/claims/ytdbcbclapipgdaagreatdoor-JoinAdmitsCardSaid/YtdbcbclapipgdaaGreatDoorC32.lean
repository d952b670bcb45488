/- Join: requests that are admitted (reference); Join: requests (both). -/
import Derived.Test.YtdbcbclapipgdaaGreatDoorVO
import Derived.Test.YtdbcbclapipgdaaGreatDoorVN
import Derived.Test.YtdbcbclapipgdaaGreatDoorJ
import Derived.Test.YtdbcbclapipgdaaGreatDoorC31
set_option linter.unusedVariables false
set_option linter.unusedSimpArgs false
namespace Go.Proofs.YtdbcbclapipgdaaGreatDoor
open Go Av
set_option maxRecDepth 20000
set_option maxHeartbeats 16000000 in
theorem ra_oka (L : List Mb) (n : Nat) (hn : L.length = n) (hb : n ≤ 1000000) (nm cd : ByteArray) (no : Int) (hm : mmB L = true) (hk : akB nm no cd = true) (i : Nat) (hix : ixN L nm = i) (nm2 sec : ByteArray) (nd nq : Int) (hq : L[i]? = some ⟨nm2, sec, nd, nq⟩) (hcd : cd = acS sec nm no) (hl : nq ≤ no) (hl2 : ¬ (no = nq ∧ nd = -1)) (hd : nd = -1) (f : Int) (hfr : frN L = f) (hf1 : 1 ≤ f ∧ f ≤ 31) : ACalls Tryz.prog 20 [.slice (some ⟨0, 0, none⟩) n n, .agg #[.string nm, .int .i64 no, .string cd]] [some ⟨L.flatMap mbC, false, 4⟩] (.tuple #[.slice (some ⟨1, 0, none⟩) n n, .agg #[.string nm, .int .i64 no, .int .i64 f, .string (nsS sec nm no f)], .int .i64 0]) [none, some ⟨(L.set i ⟨nm2, sec, f, no⟩).flatMap mbC, true, 4⟩] := by
  have HM : ACalls Tryz.prog 22 [.slice (some ⟨0, 0, none⟩) n n] [some ⟨L.flatMap mbC, false, 4⟩] (.int .i64 0) [none] := by have h := ac_rMembers L n hn hb; rw [hm] at h; exact h
  have HK := ac_AskForm nm no cd true hk
  obtain ⟨hk1, hk2, hk3⟩ := akB_t hk
  have hk4 := nmB_t hk1
  have hs2 := scB_t (mb1_t (and_t (gdN_at hm (by have := (List.getElem?_eq_some_iff.1 hq).1; omega) hq)).1).2.1
  have hg2 := (mb1_t (and_t (gdN_at hm (by have := (List.getElem?_eq_some_iff.1 hq).1; omega) hq)).1).2.2
  have hin : i < n := by have := (List.getElem?_eq_some_iff.1 hq).1; omega
  dsimp only at hs2 hg2
  have hat : atI L nm n = i := by rw [← hn]; exact atI_some hm hix hq
  have HD := ac_AskCode sec nm cd no (by omega) (by omega) (by omega) (by omega)
  obtain ⟨C, hC⟩ : ∃ C, acS sec nm no = C := ⟨_, rfl⟩
  rw [hC] at HD hcd
  clear hC
  replace hcd : decide (cd = C) = true := decide_eq_true hcd
  have HFR := ac_rfree L n hn hb
  rw [hfr] at HFR
  have HD2 := ac_AnswerCode sec nm .empty no f (by omega) (by omega) (by omega) (by omega) (by omega) (by omega)
  obtain ⟨C2, hC⟩ : ∃ C2, nsS sec nm no f = C2 := ⟨_, rfl⟩
  rw [hC] at HD2 ⊢
  clear hC
  have hlen : i < L.length := by omega
  refine acalls_of_aw Tryz.func20 rfl rfl ?_
  repeat' first | intro h1 | intro h1 | refine st (h := ok_not_dec2 rfl) ?_ | refine sd (h := ok_not_dec2 rfl) ?_ | refine st ?_ | refine stRW [0] HM ?_ | refine sdRW [0] HM ?_ | refine st_call (HK) ?_ | refine st_call (HD) ?_ | refine sd_call (HK) ?_ | refine sd_call (HD) ?_ | refine st_call (HD2) ?_ | refine sd_call (HD2) ?_ | refine stRW [0] HFR ?_ | refine sdRW [0] HFR ?_ | refine Kc ?_ | refine Ka ?_ | refine Kb ?_ ?_ | refine Jx (id := 9) [0,0,3,7,15,0,32,127] 8 ?_ | refine Jx (id := 14) [0,1,0,4,0,28,63] 7 ?_ | refine Jx (id := 29) [0,0,1,7,15] 3 ?_ | fail
  all_goals try (exfalso; omega)
  refine aw_loopg
    (S := fun y : Ki => [(0, .slice (some ⟨0, 0, none⟩) n n), (3, .pointer (some ⟨1, 0, none⟩)), (5, .pointer (some ⟨2, 0, none⟩)), (7, .int .i64 (atI L nm y.i)), (8, .int .i64 y.i)])
    (B := fun y : Ki => [some ⟨L.flatMap mbC, false, 4⟩, some ⟨[.string nm, .int .i64 no, .string cd], true, 1⟩, some ⟨[.string ⟨#[]⟩, .int .i64 0, .int .i64 0, .string ⟨#[]⟩], true, 1⟩])
    (R := fun y : Ki => y.i ≤ n)
    (μ := fun y : Ki => n - y.i) ⟨0⟩ (fitsD [0, 1, 2]) (Nat.zero_le _) ?_
  rintro ⟨j⟩ g1
  dsimp only at g1 ⊢
  by_cases hj : j < n
  · obtain ⟨⟨nm3, sec3, nd3, no3⟩, hq3⟩ : ∃ m, L[j]? = some m := ⟨_, List.getElem?_eq_getElem (by omega)⟩
    have hnx : atI L nm (j + 1) = if nm3 = nm then (j : Int) else atI L nm j := by
      show (if nmAt L j = nm then (j : Int) else atI L nm j) = _
      rw [nmAt_at hq3]
    obtain ⟨A, hA⟩ : ∃ A, atI L nm j = A := ⟨_, rfl⟩
    rw [hA] at hnx ⊢
    clear hA hat
    by_cases he : nm3 = nm
    · rw [if_pos he] at hnx
      replace he : decide (nm3 = nm) = true := decide_eq_true he
      repeat' first | intro h1 | intro h1 | refine st (h := ok_not_dec2 rfl) ?_ | refine sd (h := ok_not_dec2 rfl) ?_ | refine st (h := ok_str_eqlE rfl rfl he) ?_ | refine sd (h := ok_str_eqlE rfl rfl he) ?_ | refine sdl (v := .string nm3) (h := ok_load_rowcellE (f := mbC) (n := 4) j 0 (fun _ => rfl) hq3 rfl (by omega) rfl rfl rfl (by omega)) ?_ | refine sd (v := .string nm3) (h := ok_load_rowcellE (f := mbC) (n := 4) j 0 (fun _ => rfl) hq3 rfl (by omega) rfl rfl rfl (by omega)) ?_ | refine st (v := .string nm3) (h := ok_load_rowcellE (f := mbC) (n := 4) j 0 (fun _ => rfl) hq3 rfl (by omega) rfl rfl rfl (by omega)) ?_ | refine st ?_ | refine Kc ?_ | refine Ka ?_ | refine Kb ?_ ?_ | refine Jx (id := 9) [0,0,3,7,15,0,32,127] 8 ?_ | refine Jx (id := 14) [0,1,0,4,0,28,63] 7 ?_ | refine Jx (id := 29) [0,0,1,7,15] 3 ?_ | fail
      all_goals first | exact Exists.intro ⟨j + 1⟩ ⟨(by (dsimp only; rw [hnx]; exact fitsD [0, 1, 2])), hj, by dsimp only; omega⟩ | (exfalso; omega)
    · rw [if_neg he] at hnx
      replace he : decide (nm3 = nm) = false := decide_eq_false he
      repeat' first | intro h1 | intro h1 | refine st (h := ok_not_dec2 rfl) ?_ | refine sd (h := ok_not_dec2 rfl) ?_ | refine st (h := ok_str_eqlE rfl rfl he) ?_ | refine sd (h := ok_str_eqlE rfl rfl he) ?_ | refine sdl (v := .string nm3) (h := ok_load_rowcellE (f := mbC) (n := 4) j 0 (fun _ => rfl) hq3 rfl (by omega) rfl rfl rfl (by omega)) ?_ | refine sd (v := .string nm3) (h := ok_load_rowcellE (f := mbC) (n := 4) j 0 (fun _ => rfl) hq3 rfl (by omega) rfl rfl rfl (by omega)) ?_ | refine st (v := .string nm3) (h := ok_load_rowcellE (f := mbC) (n := 4) j 0 (fun _ => rfl) hq3 rfl (by omega) rfl rfl rfl (by omega)) ?_ | refine st ?_ | refine Kc ?_ | refine Ka ?_ | refine Kb ?_ ?_ | refine Jx (id := 9) [0,0,3,7,15,0,32,127] 8 ?_ | refine Jx (id := 14) [0,1,0,4,0,28,63] 7 ?_ | refine Jx (id := 29) [0,0,1,7,15] 3 ?_ | fail
      all_goals first | exact Exists.intro ⟨j + 1⟩ ⟨(by (dsimp only; rw [hnx]; exact fitsD [0, 1, 2])), hj, by dsimp only; omega⟩ | (exfalso; omega)
  obtain rfl : j = n := by omega
  rw [hat]
  clear hat g1
  repeat' first | intro h1 | intro h1 | refine st (h := ok_not_dec2 rfl) ?_ | refine sd (h := ok_not_dec2 rfl) ?_ | refine st (h := ok_load_rowsE (f := mbC) (cs := [.string nm2, .string sec, .int .i64 nd, .int .i64 nq]) i (fun _ => rfl) hq rfl rfl rfl rfl (by omega)) ?_ | refine sdl (h := ok_load_rowsE (f := mbC) (cs := [.string nm2, .string sec, .int .i64 nd, .int .i64 nq]) i (fun _ => rfl) hq rfl rfl rfl rfl (by omega)) ?_ | refine sd (h := ok_load_rowsE (f := mbC) (cs := [.string nm2, .string sec, .int .i64 nd, .int .i64 nq]) i (fun _ => rfl) hq rfl rfl rfl rfl (by omega)) ?_ | refine st (h := ok_str_neqE rfl rfl hcd) ?_ | refine sd (h := ok_str_neqE rfl rfl hcd) ?_ | refine stm (h := ok_storeN (vs := mbC ⟨nm2, sec, f, no⟩) (cs' := (L.set i ⟨nm2, sec, f, no⟩).flatMap mbC) rfl rfl (ListR.refl _) rfl rfl rfl rfl (splice_rows (n := 4) (f := mbC) (x := ⟨nm2, sec, f, no⟩) (fun _ => rfl) (by first | rfl | (rw [Nat.zero_add]; rfl)) (by omega)) (by ((repeat constructor); first | done | fail)) rfl) ?_ | refine sdb (h := ok_storeN (vs := mbC ⟨nm2, sec, f, no⟩) (cs' := (L.set i ⟨nm2, sec, f, no⟩).flatMap mbC) rfl rfl (ListR.refl _) rfl rfl rfl rfl (splice_rows (n := 4) (f := mbC) (x := ⟨nm2, sec, f, no⟩) (fun _ => rfl) (by first | rfl | (rw [Nat.zero_add]; rfl)) (by omega)) (by ((repeat constructor); first | done | fail)) rfl) ?_ | refine stm (h := by (apply ok_append0 (xs := L.flatMap mbC); rfl; rfl; rfl; rfl; rfl; rfl; (focus (refine Src.slc rfl Ty.eq rfl (by rw [mbC_all]; omega) (mbC_take hn) (mbC_one L) rfl)); (focus (exact Nat.zero_le _)); omega; (focus ((repeat constructor); first | done | fail)))) ?_ | refine st ?_ | refine stRW [0] HM ?_ | refine sdRW [0] HM ?_ | refine st_call (HK) ?_ | refine st_call (HD) ?_ | refine sd_call (HK) ?_ | refine sd_call (HD) ?_ | refine st_call (HD2) ?_ | refine sd_call (HD2) ?_ | refine stRW [0] HFR ?_ | refine sdRW [0] HFR ?_ | refine Kc ?_ | refine Ka ?_ | refine Kb ?_ ?_ | refine Jx (id := 9) [0,0,3,7,15,0,32,127] 8 ?_ | refine Jx (id := 14) [0,1,0,4,0,28,63] 7 ?_ | refine Jx (id := 29) [0,0,1,7,15] 3 ?_ | fail
  all_goals first | exact pm_ret _ (renumD [0, 5]) rfl | (exfalso; omega)
set_option maxHeartbeats 16000000 in
theorem ra_okb (L : List Mb) (n : Nat) (hn : L.length = n) (hb : n ≤ 1000000) (nm cd : ByteArray) (no : Int) (hm : mmB L = true) (hk : akB nm no cd = true) (i : Nat) (hix : ixN L nm = i) (nm2 sec : ByteArray) (nd nq : Int) (hq : L[i]? = some ⟨nm2, sec, nd, nq⟩) (hcd : cd = acS sec nm no) (hl : nq ≤ no) (hl2 : ¬ (no = nq ∧ nd = -1)) (hd : nd ≠ -1) : ACalls Tryz.prog 20 [.slice (some ⟨0, 0, none⟩) n n, .agg #[.string nm, .int .i64 no, .string cd]] [some ⟨L.flatMap mbC, false, 4⟩] (.tuple #[.slice (some ⟨1, 0, none⟩) n n, .agg #[.string nm, .int .i64 no, .int .i64 nd, .string (nsS sec nm no nd)], .int .i64 0]) [none, some ⟨(L.set i ⟨nm2, sec, nd, no⟩).flatMap mbC, true, 4⟩] := by
  have HM : ACalls Tryz.prog 22 [.slice (some ⟨0, 0, none⟩) n n] [some ⟨L.flatMap mbC, false, 4⟩] (.int .i64 0) [none] := by have h := ac_rMembers L n hn hb; rw [hm] at h; exact h
  have HK := ac_AskForm nm no cd true hk
  obtain ⟨hk1, hk2, hk3⟩ := akB_t hk
  have hk4 := nmB_t hk1
  have hs2 := scB_t (mb1_t (and_t (gdN_at hm (by have := (List.getElem?_eq_some_iff.1 hq).1; omega) hq)).1).2.1
  have hg2 := (mb1_t (and_t (gdN_at hm (by have := (List.getElem?_eq_some_iff.1 hq).1; omega) hq)).1).2.2
  have hin : i < n := by have := (List.getElem?_eq_some_iff.1 hq).1; omega
  dsimp only at hs2 hg2
  have hat : atI L nm n = i := by rw [← hn]; exact atI_some hm hix hq
  have HD := ac_AskCode sec nm cd no (by omega) (by omega) (by omega) (by omega)
  obtain ⟨C, hC⟩ : ∃ C, acS sec nm no = C := ⟨_, rfl⟩
  rw [hC] at HD hcd
  clear hC
  replace hcd : decide (cd = C) = true := decide_eq_true hcd
  have HD2 := ac_AnswerCode sec nm .empty no nd (by omega) (by omega) (by omega) (by omega) (by omega) (by omega)
  obtain ⟨C2, hC⟩ : ∃ C2, nsS sec nm no nd = C2 := ⟨_, rfl⟩
  rw [hC] at HD2 ⊢
  clear hC
  have hlen : i < L.length := by omega
  refine acalls_of_aw Tryz.func20 rfl rfl ?_
  repeat' first | intro h1 | intro h1 | refine st (h := ok_not_dec2 rfl) ?_ | refine sd (h := ok_not_dec2 rfl) ?_ | refine st ?_ | refine stRW [0] HM ?_ | refine sdRW [0] HM ?_ | refine st_call (HK) ?_ | refine st_call (HD) ?_ | refine sd_call (HK) ?_ | refine sd_call (HD) ?_ | refine st_call (HD2) ?_ | refine sd_call (HD2) ?_ | refine stRW [0] HFR ?_ | refine sdRW [0] HFR ?_ | refine Kc ?_ | refine Ka ?_ | refine Kb ?_ ?_ | refine Jx (id := 9) [0,0,3,7,15,0,32,127] 8 ?_ | refine Jx (id := 14) [0,1,0,4,0,28,63] 7 ?_ | refine Jx (id := 29) [0,0,1,7,15] 3 ?_ | fail
  all_goals try (exfalso; omega)
  refine aw_loopg
    (S := fun y : Ki => [(0, .slice (some ⟨0, 0, none⟩) n n), (3, .pointer (some ⟨1, 0, none⟩)), (5, .pointer (some ⟨2, 0, none⟩)), (7, .int .i64 (atI L nm y.i)), (8, .int .i64 y.i)])
    (B := fun y : Ki => [some ⟨L.flatMap mbC, false, 4⟩, some ⟨[.string nm, .int .i64 no, .string cd], true, 1⟩, some ⟨[.string ⟨#[]⟩, .int .i64 0, .int .i64 0, .string ⟨#[]⟩], true, 1⟩])
    (R := fun y : Ki => y.i ≤ n)
    (μ := fun y : Ki => n - y.i) ⟨0⟩ (fitsD [0, 1, 2]) (Nat.zero_le _) ?_
  rintro ⟨j⟩ g1
  dsimp only at g1 ⊢
  by_cases hj : j < n
  · obtain ⟨⟨nm3, sec3, nd3, no3⟩, hq3⟩ : ∃ m, L[j]? = some m := ⟨_, List.getElem?_eq_getElem (by omega)⟩
    have hnx : atI L nm (j + 1) = if nm3 = nm then (j : Int) else atI L nm j := by
      show (if nmAt L j = nm then (j : Int) else atI L nm j) = _
      rw [nmAt_at hq3]
    obtain ⟨A, hA⟩ : ∃ A, atI L nm j = A := ⟨_, rfl⟩
    rw [hA] at hnx ⊢
    clear hA hat
    by_cases he : nm3 = nm
    · rw [if_pos he] at hnx
      replace he : decide (nm3 = nm) = true := decide_eq_true he
      repeat' first | intro h1 | intro h1 | refine st (h := ok_not_dec2 rfl) ?_ | refine sd (h := ok_not_dec2 rfl) ?_ | refine st (h := ok_str_eqlE rfl rfl he) ?_ | refine sd (h := ok_str_eqlE rfl rfl he) ?_ | refine sdl (v := .string nm3) (h := ok_load_rowcellE (f := mbC) (n := 4) j 0 (fun _ => rfl) hq3 rfl (by omega) rfl rfl rfl (by omega)) ?_ | refine sd (v := .string nm3) (h := ok_load_rowcellE (f := mbC) (n := 4) j 0 (fun _ => rfl) hq3 rfl (by omega) rfl rfl rfl (by omega)) ?_ | refine st (v := .string nm3) (h := ok_load_rowcellE (f := mbC) (n := 4) j 0 (fun _ => rfl) hq3 rfl (by omega) rfl rfl rfl (by omega)) ?_ | refine st ?_ | refine Kc ?_ | refine Ka ?_ | refine Kb ?_ ?_ | refine Jx (id := 9) [0,0,3,7,15,0,32,127] 8 ?_ | refine Jx (id := 14) [0,1,0,4,0,28,63] 7 ?_ | refine Jx (id := 29) [0,0,1,7,15] 3 ?_ | fail
      all_goals first | exact Exists.intro ⟨j + 1⟩ ⟨(by (dsimp only; rw [hnx]; exact fitsD [0, 1, 2])), hj, by dsimp only; omega⟩ | (exfalso; omega)
    · rw [if_neg he] at hnx
      replace he : decide (nm3 = nm) = false := decide_eq_false he
      repeat' first | intro h1 | intro h1 | refine st (h := ok_not_dec2 rfl) ?_ | refine sd (h := ok_not_dec2 rfl) ?_ | refine st (h := ok_str_eqlE rfl rfl he) ?_ | refine sd (h := ok_str_eqlE rfl rfl he) ?_ | refine sdl (v := .string nm3) (h := ok_load_rowcellE (f := mbC) (n := 4) j 0 (fun _ => rfl) hq3 rfl (by omega) rfl rfl rfl (by omega)) ?_ | refine sd (v := .string nm3) (h := ok_load_rowcellE (f := mbC) (n := 4) j 0 (fun _ => rfl) hq3 rfl (by omega) rfl rfl rfl (by omega)) ?_ | refine st (v := .string nm3) (h := ok_load_rowcellE (f := mbC) (n := 4) j 0 (fun _ => rfl) hq3 rfl (by omega) rfl rfl rfl (by omega)) ?_ | refine st ?_ | refine Kc ?_ | refine Ka ?_ | refine Kb ?_ ?_ | refine Jx (id := 9) [0,0,3,7,15,0,32,127] 8 ?_ | refine Jx (id := 14) [0,1,0,4,0,28,63] 7 ?_ | refine Jx (id := 29) [0,0,1,7,15] 3 ?_ | fail
      all_goals first | exact Exists.intro ⟨j + 1⟩ ⟨(by (dsimp only; rw [hnx]; exact fitsD [0, 1, 2])), hj, by dsimp only; omega⟩ | (exfalso; omega)
  obtain rfl : j = n := by omega
  rw [hat]
  clear hat g1
  repeat' first | intro h1 | intro h1 | refine st (h := ok_not_dec2 rfl) ?_ | refine sd (h := ok_not_dec2 rfl) ?_ | refine st (h := ok_load_rowsE (f := mbC) (cs := [.string nm2, .string sec, .int .i64 nd, .int .i64 nq]) i (fun _ => rfl) hq rfl rfl rfl rfl (by omega)) ?_ | refine sdl (h := ok_load_rowsE (f := mbC) (cs := [.string nm2, .string sec, .int .i64 nd, .int .i64 nq]) i (fun _ => rfl) hq rfl rfl rfl rfl (by omega)) ?_ | refine sd (h := ok_load_rowsE (f := mbC) (cs := [.string nm2, .string sec, .int .i64 nd, .int .i64 nq]) i (fun _ => rfl) hq rfl rfl rfl rfl (by omega)) ?_ | refine st (h := ok_str_neqE rfl rfl hcd) ?_ | refine sd (h := ok_str_neqE rfl rfl hcd) ?_ | refine stm (h := ok_storeN (vs := mbC ⟨nm2, sec, nd, no⟩) (cs' := (L.set i ⟨nm2, sec, nd, no⟩).flatMap mbC) rfl rfl (ListR.refl _) rfl rfl rfl rfl (splice_rows (n := 4) (f := mbC) (x := ⟨nm2, sec, nd, no⟩) (fun _ => rfl) (by first | rfl | (rw [Nat.zero_add]; rfl)) (by omega)) (by ((repeat constructor); first | done | fail)) rfl) ?_ | refine sdb (h := ok_storeN (vs := mbC ⟨nm2, sec, nd, no⟩) (cs' := (L.set i ⟨nm2, sec, nd, no⟩).flatMap mbC) rfl rfl (ListR.refl _) rfl rfl rfl rfl (splice_rows (n := 4) (f := mbC) (x := ⟨nm2, sec, nd, no⟩) (fun _ => rfl) (by first | rfl | (rw [Nat.zero_add]; rfl)) (by omega)) (by ((repeat constructor); first | done | fail)) rfl) ?_ | refine stm (h := by (apply ok_append0 (xs := L.flatMap mbC); rfl; rfl; rfl; rfl; rfl; rfl; (focus (refine Src.slc rfl Ty.eq rfl (by rw [mbC_all]; omega) (mbC_take hn) (mbC_one L) rfl)); (focus (exact Nat.zero_le _)); omega; (focus ((repeat constructor); first | done | fail)))) ?_ | refine st ?_ | refine stRW [0] HM ?_ | refine sdRW [0] HM ?_ | refine st_call (HK) ?_ | refine st_call (HD) ?_ | refine sd_call (HK) ?_ | refine sd_call (HD) ?_ | refine st_call (HD2) ?_ | refine sd_call (HD2) ?_ | refine stRW [0] HFR ?_ | refine sdRW [0] HFR ?_ | refine Kc ?_ | refine Ka ?_ | refine Kb ?_ ?_ | refine Jx (id := 9) [0,0,3,7,15,0,32,127] 8 ?_ | refine Jx (id := 14) [0,1,0,4,0,28,63] 7 ?_ | refine Jx (id := 29) [0,0,1,7,15] 3 ?_ | fail
  all_goals first | exact pm_ret _ (renumD [0, 5]) rfl | (exfalso; omega)
theorem adm_bad (L : List Mb) (n : Nat) (hn : L.length = n) (hb : n ≤ 1000000) (nm cd : ByteArray) (no : Int) (e : Int) (he : adE L nm no cd = e) (h0 : e ≠ 0) : ACalls Tryz.prog 19 [.slice (some ⟨0, 0, none⟩) n n, .agg #[.string nm, .int .i64 no, .string cd]] [some ⟨L.flatMap mbC, false, 4⟩] (.tuple #[.slice none 0 0, .agg #[.string ⟨#[]⟩, .int .i64 0, .int .i64 0, .string ⟨#[]⟩], .int .i64 e]) [none] ∧ ACalls Tryz.prog 20 [.slice (some ⟨0, 0, none⟩) n n, .agg #[.string nm, .int .i64 no, .string cd]] [some ⟨L.flatMap mbC, false, 4⟩] (.tuple #[.slice none 0 0, .agg #[.string ⟨#[]⟩, .int .i64 0, .int .i64 0, .string ⟨#[]⟩], .int .i64 e]) [none] := by
  unfold adE at he
  cases hm : mmB L with
  | false =>
    rw [hm, if_pos rfl] at he
    subst he
    exact ⟨ja_m L n hn hb nm cd no hm, ra_m L n hn hb nm cd no hm⟩
  | true =>
  rw [hm, if_neg (by decide)] at he
  cases hk : akB nm no cd with
  | false =>
    rw [hk, if_pos rfl] at he
    subst he
    exact ⟨ja_k L n hn hb nm cd no hm hk, ra_k L n hn hb nm cd no hm hk⟩
  | true =>
  rw [hk, if_neg (by decide)] at he
  obtain ⟨i, hix⟩ : ∃ i, ixN L nm = i := ⟨_, rfl⟩
  rw [hix] at he
  cases hq : L[i]? with
  | none =>
    rw [hq] at he
    dsimp only at he
    subst he
    subst hix
    exact ⟨ja_n L n hn hb nm cd no hm hk hq, ra_n L n hn hb nm cd no hm hk hq⟩
  | some m =>
  rw [hq] at he
  obtain ⟨nm2, sec, nd, nq⟩ := m
  dsimp only at he
  by_cases k1 : cd ≠ acS sec nm no
  · rw [if_pos k1] at he
    subst he
    exact ⟨ja_p L n hn hb nm cd no hm hk i hix nm2 sec nd nq hq k1, ra_p L n hn hb nm cd no hm hk i hix nm2 sec nd nq hq k1⟩
  rw [if_neg k1] at he
  replace k1 := Classical.not_not.1 k1
  by_cases k2 : no < nq
  · rw [if_pos k2] at he
    subst he
    exact ⟨ja_l L n hn hb nm cd no hm hk i hix nm2 sec nd nq hq k1 k2, ra_l L n hn hb nm cd no hm hk i hix nm2 sec nd nq hq k1 k2⟩
  rw [if_neg k2] at he
  by_cases k3 : no = nq ∧ nd = -1
  · rw [if_pos k3] at he
    subst he
    exact ⟨ja_s L n hn hb nm cd no hm hk i hix nm2 sec nd nq hq k1 k3.1 k3.2, ra_s L n hn hb nm cd no hm hk i hix nm2 sec nd nq hq k1 k3.1 k3.2⟩
  rw [if_neg k3] at he
  by_cases k4 : nd = -1 ∧ frN L < 0
  · rw [if_pos k4] at he
    subst he
    have k5 : nq < no := by
      rcases Int.lt_or_eq_of_le (Int.not_lt.1 k2) with h | h
      · exact h
      · exact absurd ⟨h.symm, k4.1⟩ k3
    exact ⟨ja_f L n hn hb nm cd no hm hk i hix nm2 sec nd nq hq k1 k5 k4.1 k4.2, ra_f L n hn hb nm cd no hm hk i hix nm2 sec nd nq hq k1 k5 k4.1 k4.2⟩
  · rw [if_neg k4] at he
    exact absurd he.symm h0
theorem adm_ok (L : List Mb) (n : Nat) (hn : L.length = n) (hb : n ≤ 1000000) (nm cd : ByteArray) (no : Int) (he : adE L nm no cd = 0) : ∃ (i : Nat) (nm2 sec : ByteArray) (nd nq d : Int), (mmB L = true ∧ akB nm no cd = true ∧ ixN L nm = i ∧ L[i]? = some ⟨nm2, sec, nd, nq⟩ ∧ cd = acS sec nm no ∧ nq ≤ no ∧ ¬ (no = nq ∧ nd = -1) ∧ adD L ⟨nm2, sec, nd, nq⟩ = d ∧ (1 ≤ d ∧ d ≤ 31)) ∧ ACalls Tryz.prog 19 [.slice (some ⟨0, 0, none⟩) n n, .agg #[.string nm, .int .i64 no, .string cd]] [some ⟨L.flatMap mbC, false, 4⟩] (.tuple #[.slice (some ⟨1, 0, none⟩) n n, .agg #[.string nm, .int .i64 no, .int .i64 d, .string (nsS sec nm no d)], .int .i64 0]) [none, some ⟨(L.set i ⟨nm2, sec, d, no⟩).flatMap mbC, true, 4⟩] ∧ ACalls Tryz.prog 20 [.slice (some ⟨0, 0, none⟩) n n, .agg #[.string nm, .int .i64 no, .string cd]] [some ⟨L.flatMap mbC, false, 4⟩] (.tuple #[.slice (some ⟨1, 0, none⟩) n n, .agg #[.string nm, .int .i64 no, .int .i64 d, .string (nsS sec nm no d)], .int .i64 0]) [none, some ⟨(L.set i ⟨nm2, sec, d, no⟩).flatMap mbC, true, 4⟩] := by
  obtain ⟨hm, hk, ⟨nm2, sec, nd, nq⟩, hq, hcd, hl, hl2, hd⟩ := adE_0 he
  dsimp only at hcd hl hl2 hd
  obtain ⟨d, hdd⟩ : ∃ d, adD L ⟨nm2, sec, nd, nq⟩ = d := ⟨_, rfl⟩
  rw [hdd] at hd
  refine ⟨ixN L nm, nm2, sec, nd, nq, d, ⟨hm, hk, rfl, hq, hcd, hl, hl2, hdd, hd⟩, ?_⟩
  unfold adD at hdd
  dsimp only at hdd
  by_cases h1 : nd = -1
  · rw [if_pos h1] at hdd
    exact ⟨ja_oka L n hn hb nm cd no hm hk _ rfl nm2 sec nd nq hq hcd hl hl2 h1 d hdd hd, ra_oka L n hn hb nm cd no hm hk _ rfl nm2 sec nd nq hq hcd hl hl2 h1 d hdd hd⟩
  · rw [if_neg h1] at hdd
    subst hdd
    exact ⟨ja_okb L n hn hb nm cd no hm hk _ rfl nm2 sec nd nq hq hcd hl hl2 h1, ra_okb L n hn hb nm cd no hm hk _ rfl nm2 sec nd nq hq hcd hl hl2 h1⟩
end Go.Proofs.YtdbcbclapipgdaaGreatDoor
