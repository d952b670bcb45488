/- Join: the open beacon; Join: the chapter's example; JoinAdmits: the law. -/
import Derived.Test.YtdbcbclapipgdaaGreatDoorVO
import Derived.Test.YtdbcbclapipgdaaGreatDoorVN
import Derived.Test.YtdbcbclapipgdaaGreatDoorJ
import Derived.Test.YtdbcbclapipgdaaGreatDoorC14
import Derived.Test.YtdbcbclapipgdaaGreatDoorC23
import Derived.Test.YtdbcbclapipgdaaGreatDoorC32
import Derived.Test.YtdbcbclapipgdaaGreatDoorC33
set_option linter.unusedVariables false
set_option linter.unusedSimpArgs false
namespace Go.Proofs.YtdbcbclapipgdaaGreatDoor
open Go Av
set_option maxRecDepth 20000
/-- The data of the open beacon. -/
def opD : ByteArray := pkB (ofB 0 true .empty 0 0 0 [])
theorem opD_size : opD.size ≤ 1000 := Nat.le_of_ble_eq_true (by kernel_rfl)
theorem opD_read : readO true opD = ((0, true, .empty, 0, 0, 0, []), 0) := by kernel_rfl
theorem op_mk : mkF 3 1 9 0 0 0 0 (pkB (ofB 0 true .empty 0 0 0 [])) = ((3, 3, -1, 0, 0, 0, 0, 0, 0, 9, 1, opD), 0) := by
  unfold mkF
  rw [if_neg (by decide), if_neg (by decide), if_pos (by kernel_rfl)]
  rfl
theorem op_is : isC 3 3 (-1) 0 0 0 0 0 0 9 1 = true := by kernel_rfl
theorem op_op : opF ⟨3, 3, -1, 0, 0, 0, 0, 0, 0, 9, 1, opD⟩ = true := by
  unfold opF isF
  dsimp only
  rw [op_is, opD_read]
  rfl
theorem op_hr : hrB [⟨3, 3, -1, 0, 0, 0, 0, 0, 0, 9, 1, opD⟩] 1 = 0 := hrB_first (i := 0) (f := ⟨3, 3, -1, 0, 0, 0, 0, 0, 0, 9, 1, opD⟩) rfl op_op (by decide)
set_option maxHeartbeats 4000000 in
theorem ac_open : ACalls Tryz.prog 39 [] [] (.agg #[.int .i64 3, .int .i64 3, .int .i64 (-1), .int .i64 0, .int .i64 0, .int .i64 0, .int .i64 0, .int .i64 0, .int .i64 0, .int .i64 9, .int .i64 1, .string opD]) [] := by
  have H := ac_rmake 3 1 0 0 9 0 0 0 0 0 true .empty 0 0 0 [] 0 rfl (by decide) 0 (by kernel_rfl) _ _ op_mk
  dsimp only [frV] at H
  generalize opD = D at H ⊢
  refine acalls_law Tryz.func39 rfl rfl rfl ?_
  refine aw_ghost 1 rfl ?_
  repeat' first | intro h1 | intro h1 | refine st ?_ | refine stRW [0] H ?_ | refine sdRW [0] H ?_ | refine Kc ?_ | refine Ka ?_ | refine Kb ?_ ?_ | fail
  all_goals first
    | rfl
    | (exfalso; omega)
    | (simp [retOf]; done)
    | (exfalso; simp_all; done)
    | (exfalso; simp only [Bool.not_eq_true', Bool.not_eq_false', decide_eq_true_eq, decide_eq_false_iff_not, Bool.not_false, Bool.not_true] at *; omega)
theorem pu_ch : ∀ (sj pa ep nd no tr si : Int), (decide ((0 ≤ ep ∧ ep ≤ 65535) ∧ (0 ≤ no ∧ no ≤ 2147483647) ∧ (0 ≤ si ∧ si ≤ 109951162) ∧ 0 ≤ tr ∧ tr ≤ 4) && stB sj pa ep nd no tr si) = true → chJ ⟨#[112, 117, 109, 112]⟩ ⟨#[115]⟩ sj pa ep nd no tr si = true := fun sj pa ep nd no tr si h => by
  unfold chJ
  rw [h, show nmB ⟨#[112, 117, 109, 112]⟩ = true by kernel_rfl, show scB ⟨#[115]⟩ = true by kernel_rfl]
  rfl
theorem pu_nm : nmB ⟨#[112, 117, 109, 112]⟩ = true := by kernel_rfl
theorem pu_mm : mmB [⟨⟨#[112, 117, 109, 112]⟩, ⟨#[115]⟩, -1, 0⟩] = true := by kernel_rfl
theorem pu_fr : frN [⟨⟨#[112, 117, 109, 112]⟩, ⟨#[115]⟩, -1, 0⟩] = 1 := by kernel_rfl
theorem pu_ix : ixN [⟨⟨#[112, 117, 109, 112]⟩, ⟨#[115]⟩, -1, 0⟩] ⟨#[112, 117, 109, 112]⟩ = 0 := by kernel_rfl
theorem pu_ak : akB ⟨#[112, 117, 109, 112]⟩ 1 (acS ⟨#[115]⟩ ⟨#[112, 117, 109, 112]⟩ 1) = true := by
  unfold akB
  rw [pu_nm, decide_eq_true ⟨by decide, acS_size _ _ _⟩]
  rfl
theorem pu_an : anB ⟨#[112, 117, 109, 112]⟩ 1 1 (nsS ⟨#[115]⟩ ⟨#[112, 117, 109, 112]⟩ 1 1) = true := by
  unfold anB akB
  rw [pu_nm, decide_eq_true ⟨by decide, nsS_size _ _ _ _⟩]
  rfl
set_option maxHeartbeats 16000000 in
theorem ac_awake : ACalls Tryz.prog 12 [] [] (.bool true) [] := by
  have H1 : ACalls Tryz.prog 31 [.string ⟨#[112, 117, 109, 112]⟩, .string ⟨#[115]⟩] [] (.tuple #[.agg #[.string ⟨#[112, 117, 109, 112]⟩, .string ⟨#[115]⟩, .int .i64 0, .int .i64 (-1), .int .i64 0, .int .i64 (-1), .int .i64 0, .int .i64 0, .int .i64 0], .int .i64 0]) [] := by
    have h := ac_jStart ⟨#[112, 117, 109, 112]⟩ ⟨#[115]⟩
    rw [pu_nm, show scB ⟨#[115]⟩ = true by kernel_rfl] at h
    exact h
  have H2 := ac_open
  have H3 : ACalls Tryz.prog 33 [.agg #[.string ⟨#[112, 117, 109, 112]⟩, .string ⟨#[115]⟩, .int .i64 0, .int .i64 (-1), .int .i64 0, .int .i64 (-1), .int .i64 0, .int .i64 0, .int .i64 0], .slice (some ⟨0, 0, none⟩) 1 1] [some ⟨[.int .i64 3, .int .i64 3, .int .i64 (-1), .int .i64 0, .int .i64 0, .int .i64 0, .int .i64 0, .int .i64 0, .int .i64 0, .int .i64 9, .int .i64 1, .string opD], false, 12⟩] (.tuple #[.agg #[.string ⟨#[112, 117, 109, 112]⟩, .string ⟨#[115]⟩, .int .i64 1, .int .i64 3, .int .i64 1, .int .i64 (-1), .int .i64 0, .int .i64 0, .int .i64 0], .int .i64 0]) [none] := ac_jHear ⟨#[112, 117, 109, 112]⟩ ⟨#[115]⟩ 0 (-1) 0 (-1) 0 0 0 [⟨3, 3, -1, 0, 0, 0, 0, 0, 0, 9, 1, opD⟩] 1 rfl (by decide) (fun f hf => by
    rw [List.mem_singleton] at hf
    subst hf
    exact opD_size) 0 (by rw [pu_ch _ _ _ _ _ _ _ (by kernel_rfl), op_hr]; rfl) 3 1 (fun f hf => by
    rw [op_hr] at hf
    cases hf
    exact ⟨rfl, rfl⟩)
  have H4 : ACalls Tryz.prog 14 [.agg #[.string ⟨#[112, 117, 109, 112]⟩, .string ⟨#[115]⟩, .int .i64 1, .int .i64 3, .int .i64 1, .int .i64 (-1), .int .i64 0, .int .i64 0, .int .i64 0], .int .i64 5] [] (.tuple #[.agg #[.string ⟨#[112, 117, 109, 112]⟩, .string ⟨#[115]⟩, .int .i64 2, .int .i64 3, .int .i64 1, .int .i64 (-1), .int .i64 1, .int .i64 1, .int .i64 5], .agg #[.string ⟨#[112, 117, 109, 112]⟩, .int .i64 1, .string (acS ⟨#[115]⟩ ⟨#[112, 117, 109, 112]⟩ 1)], .int .i64 0]) [] := ac_jReq1 ⟨#[112, 117, 109, 112]⟩ ⟨#[115]⟩ 1 3 1 (-1) 0 0 0 5 (pu_ch _ _ _ _ _ _ _ (by kernel_rfl)) (by decide) rfl (by decide)
  have H5 : ACalls Tryz.prog 19 [.slice (some ⟨0, 0, none⟩) 1 1, .agg #[.string ⟨#[112, 117, 109, 112]⟩, .int .i64 1, .string (acS ⟨#[115]⟩ ⟨#[112, 117, 109, 112]⟩ 1)]] [some ⟨[.string ⟨#[112, 117, 109, 112]⟩, .string ⟨#[115]⟩, .int .i64 (-1), .int .i64 0], false, 4⟩] (.tuple #[.slice (some ⟨1, 0, none⟩) 1 1, .agg #[.string ⟨#[112, 117, 109, 112]⟩, .int .i64 1, .int .i64 1, .string (nsS ⟨#[115]⟩ ⟨#[112, 117, 109, 112]⟩ 1 1)], .int .i64 0]) [none, some ⟨[.string ⟨#[112, 117, 109, 112]⟩, .string ⟨#[115]⟩, .int .i64 1, .int .i64 1], true, 4⟩] := ja_oka [⟨⟨#[112, 117, 109, 112]⟩, ⟨#[115]⟩, -1, 0⟩] 1 rfl (by decide) ⟨#[112, 117, 109, 112]⟩ (acS ⟨#[115]⟩ ⟨#[112, 117, 109, 112]⟩ 1) 1 pu_mm pu_ak 0 pu_ix ⟨#[112, 117, 109, 112]⟩ ⟨#[115]⟩ (-1) 0 rfl rfl (by decide) (by decide) rfl 1 pu_fr (by decide)
  have H6 : ACalls Tryz.prog 16 [.agg #[.string ⟨#[112, 117, 109, 112]⟩, .string ⟨#[115]⟩, .int .i64 2, .int .i64 3, .int .i64 1, .int .i64 (-1), .int .i64 1, .int .i64 1, .int .i64 5], .agg #[.string ⟨#[112, 117, 109, 112]⟩, .int .i64 1, .int .i64 1, .string (nsS ⟨#[115]⟩ ⟨#[112, 117, 109, 112]⟩ 1 1)]] [] (.tuple #[.agg #[.string ⟨#[112, 117, 109, 112]⟩, .string ⟨#[115]⟩, .int .i64 3, .int .i64 3, .int .i64 1, .int .i64 1, .int .i64 1, .int .i64 1, .int .i64 5], .int .i64 0]) [] := ac_jTake0 ⟨#[112, 117, 109, 112]⟩ ⟨#[115]⟩ 2 3 1 (-1) 1 1 5 ⟨#[112, 117, 109, 112]⟩ 1 1 (nsS ⟨#[115]⟩ ⟨#[112, 117, 109, 112]⟩ 1 1) 0 (by
    rw [pu_ch _ _ _ _ _ _ _ (by kernel_rfl), pu_an]
    simp)
  generalize acS ⟨#[115]⟩ ⟨#[112, 117, 109, 112]⟩ 1 = C1 at H4 H5
  generalize nsS ⟨#[115]⟩ ⟨#[112, 117, 109, 112]⟩ 1 1 = C2 at H5 H6
  generalize opD = D at H2 H3
  refine acalls_law Tryz.func12 rfl rfl rfl ?_
  repeat' first | intro h1 | intro h1 | refine st ?_ | refine st_call (H1) ?_ | refine st_call (H2) ?_ | refine st_call (H4) ?_ | refine st_call (H6) ?_ | refine sd_call (H1) ?_ | refine sd_call (H2) ?_ | refine sd_call (H4) ?_ | refine sd_call (H6) ?_ | refine stRW [1] H3 ?_ | refine sdRW [1] H3 ?_ | refine stMW [3] H5 ?_ | refine Kc ?_ | refine Ka ?_ | refine Kb ?_ ?_ | refine Jx (id := 2) [0,0,2,7,15,31,31,63,255] 7 ?_ | fail
  all_goals first
    | rfl
    | (exfalso; omega)
    | (simp [retOf]; done)
    | (exfalso; simp_all; done)
    | (exfalso; simp only [Bool.not_eq_true', Bool.not_eq_false', decide_eq_true_eq, decide_eq_false_iff_not, Bool.not_false, Bool.not_true] at *; omega)
set_option maxHeartbeats 16000000 in
theorem law_admits (L : List Mb) (n : Nat) (hn : L.length = n) (nm cd : ByteArray) (no : Int) : ACalls Tryz.prog 4 [.slice (some ⟨0, 0, none⟩) n n, .agg #[.string nm, .int .i64 no, .string cd]] [some ⟨L.flatMap mbC, false, 4⟩] (.bool true) [none] := by
  have HK := ac_awake
  obtain ⟨x, hx, HF⟩ := ac_Few L n hn
  cases x with
  | false =>
    clear hx
    refine acalls_law Tryz.func4 rfl rfl rfl ?_
    repeat' first | intro h1 | intro h1 | refine st (h := ok_not_dec2 rfl) ?_ | refine st ?_ | refine st_call (HK) ?_ | refine sd_call (HK) ?_ | refine stRW [0] HF ?_ | refine sdRW [0] HF ?_ | refine Kc ?_ | refine Ka ?_ | refine Kb ?_ ?_ | fail
    all_goals first
      | rfl
      | (exfalso; omega)
      | (simp [retOf]; done)
      | (exfalso; simp_all; done)
      | (exfalso; simp only [Bool.not_eq_true', Bool.not_eq_false', decide_eq_true_eq, decide_eq_false_iff_not, Bool.not_false, Bool.not_true] at *; omega)
  | true =>
  have hx1 := hx rfl
  clear hx
  by_cases h2 : nm.size ≤ 60
  case neg =>
    refine acalls_law Tryz.func4 rfl rfl rfl ?_
    repeat' first | intro h1 | intro h1 | refine st (h := ok_not_dec2 rfl) ?_ | refine st ?_ | refine st_call (HK) ?_ | refine sd_call (HK) ?_ | refine stRW [0] HF ?_ | refine sdRW [0] HF ?_ | refine Kc ?_ | refine Ka ?_ | refine Kb ?_ ?_ | fail
    all_goals first
      | rfl
      | (exfalso; omega)
      | (simp [retOf]; done)
      | (exfalso; simp_all; done)
      | (exfalso; simp only [Bool.not_eq_true', Bool.not_eq_false', decide_eq_true_eq, decide_eq_false_iff_not, Bool.not_false, Bool.not_true] at *; omega)
  by_cases h3 : cd.size ≤ 60
  case neg =>
    refine acalls_law Tryz.func4 rfl rfl rfl ?_
    repeat' first | intro h1 | intro h1 | refine st (h := ok_not_dec2 rfl) ?_ | refine st ?_ | refine st_call (HK) ?_ | refine sd_call (HK) ?_ | refine stRW [0] HF ?_ | refine sdRW [0] HF ?_ | refine Kc ?_ | refine Ka ?_ | refine Kb ?_ ?_ | fail
    all_goals first
      | rfl
      | (exfalso; omega)
      | (simp [retOf]; done)
      | (exfalso; simp_all; done)
      | (exfalso; simp only [Bool.not_eq_true', Bool.not_eq_false', decide_eq_true_eq, decide_eq_false_iff_not, Bool.not_false, Bool.not_true] at *; omega)
  obtain ⟨m, hm⟩ : ∃ m : Int, cond (mmB L) 0 1 = m := ⟨_, rfl⟩
  have H7 := ac_jMembers L n hn (by omega)
  have H8 := ac_rMembers L n hn (by omega)
  rw [hm] at H7 H8
  clear hm
  obtain ⟨e, he⟩ : ∃ e, adE L nm no cd = e := ⟨_, rfl⟩
  by_cases h0 : e = 0
  · subst h0
    obtain ⟨i, nm2, sec, nd, nq, d, ⟨_, _, _, hq, _⟩, H1, H2⟩ := adm_ok L n hn (by omega) nm cd no he
    have HS := ac_same (L.set i ⟨nm2, sec, d, no⟩) n (by rw [List.length_set]; exact hn) (by omega)
    obtain ⟨C, hC⟩ : ∃ C, nsS sec nm no d = C := ⟨_, rfl⟩
    rw [hC] at H1 H2
    generalize L.set i ⟨nm2, sec, d, no⟩ = L2 at H1 H2 HS
    clear hC he hq
    refine acalls_law Tryz.func4 rfl rfl rfl ?_
    repeat' first | intro h1 | intro h1 | refine st (h := ok_not_dec2 rfl) ?_ | refine st (h := ok_agg_eqlT rfl rfl (by ((repeat constructor); first | done | fail)) (by simp)) ?_ | refine sd (h := ok_agg_eqlT rfl rfl (by ((repeat constructor); first | done | fail)) (by simp)) ?_ | refine st ?_ | refine st_call (HK) ?_ | refine sd_call (HK) ?_ | refine stRW [0] HF ?_ | refine stRW [0] H7 ?_ | refine stRW [0] H8 ?_ | refine stRW [2, 4] HS ?_ | refine sdRW [0] HF ?_ | refine sdRW [0] H7 ?_ | refine sdRW [0] H8 ?_ | refine sdRW [2, 4] HS ?_ | refine stMW [0] H1 ?_ | refine stMW [0] H2 ?_ | refine Kc ?_ | refine Ka ?_ | refine Kb ?_ ?_ | fail
    all_goals first
      | rfl
      | (exfalso; omega)
      | (simp [retOf]; done)
      | (exfalso; simp_all; done)
      | (exfalso; simp only [Bool.not_eq_true', Bool.not_eq_false', decide_eq_true_eq, decide_eq_false_iff_not, Bool.not_false, Bool.not_true] at *; omega)
  · obtain ⟨H1, H2⟩ := adm_bad L n hn (by omega) nm cd no e he h0
    have HS := ac_same0
    clear he
    refine acalls_law Tryz.func4 rfl rfl rfl ?_
    repeat' first | intro h1 | intro h1 | refine st (h := ok_not_dec2 rfl) ?_ | refine st (h := ok_agg_eqlT rfl rfl (by ((repeat constructor); first | done | fail)) (by simp)) ?_ | refine sd (h := ok_agg_eqlT rfl rfl (by ((repeat constructor); first | done | fail)) (by simp)) ?_ | refine st ?_ | refine st_call (HK) ?_ | refine st_call (HS) ?_ | refine sd_call (HK) ?_ | refine sd_call (HS) ?_ | refine stRW [0] HF ?_ | refine stRW [0] H1 ?_ | refine stRW [0] H2 ?_ | refine stRW [0] H7 ?_ | refine stRW [0] H8 ?_ | refine sdRW [0] HF ?_ | refine sdRW [0] H1 ?_ | refine sdRW [0] H2 ?_ | refine sdRW [0] H7 ?_ | refine sdRW [0] H8 ?_ | refine Kc ?_ | refine Ka ?_ | refine Kb ?_ ?_ | fail
    all_goals first
      | rfl
      | (exfalso; omega)
      | (simp [retOf]; done)
      | (exfalso; simp_all; done)
      | (exfalso; simp only [Bool.not_eq_true', Bool.not_eq_false', decide_eq_true_eq, decide_eq_false_iff_not, Bool.not_false, Bool.not_true] at *; omega)
end Go.Proofs.YtdbcbclapipgdaaGreatDoor
