/- Join: requests that are admitted. -/
import Derived.Test.YtdbcbclapipgdaaGreatDoorVO
import Derived.Test.YtdbcbclapipgdaaGreatDoorJ
import Derived.Test.YtdbcbclapipgdaaGreatDoorC11
import Derived.Test.YtdbcbclapipgdaaGreatDoorC18
import Derived.Test.YtdbcbclapipgdaaGreatDoorC20
set_option linter.unusedVariables false
set_option linter.unusedSimpArgs false
namespace Go.Proofs.YtdbcbclapipgdaaGreatDoor
open Go Av
set_option maxRecDepth 20000
set_option maxHeartbeats 16000000 in
theorem ja_okb (L : List Mb) (n : Nat) (hn : L.length = n) (hb : n ≤ 1000000) (nm cd : ByteArray) (no : Int) (hm : mmB L = true) (hk : akB nm no cd = true) (i : Nat) (hix : ixN L nm = i) (nm2 sec : ByteArray) (nd nq : Int) (hq : L[i]? = some ⟨nm2, sec, nd, nq⟩) (hcd : cd = acS sec nm no) (hl : nq ≤ no) (hl2 : ¬ (no = nq ∧ nd = -1)) (hd : nd ≠ -1) : ACalls Tryz.prog 19 [.slice (some ⟨0, 0, none⟩) n n, .agg #[.string nm, .int .i64 no, .string cd]] [some ⟨L.flatMap mbC, false, 4⟩] (.tuple #[.slice (some ⟨1, 0, none⟩) n n, .agg #[.string nm, .int .i64 no, .int .i64 nd, .string (nsS sec nm no nd)], .int .i64 0]) [none, some ⟨(L.set i ⟨nm2, sec, nd, no⟩).flatMap mbC, true, 4⟩] := by
  have HM : ACalls Tryz.prog 21 [.slice (some ⟨0, 0, none⟩) n n] [some ⟨L.flatMap mbC, false, 4⟩] (.int .i64 0) [none] := by have h := ac_jMembers L n hn hb; rw [hm] at h; exact h
  have HK := ac_asks nm no cd true hk
  have HS := srch_hit L n hn hb nm hm i hix _ hq
  obtain ⟨hk1, hk2, hk3⟩ := akB_t hk
  have hk4 := nmB_t hk1
  have hs2 := scB_t (mb1_t (and_t (gdN_at hm (by have := (List.getElem?_eq_some_iff.1 hq).1; omega) hq)).1).2.1
  have hg2 := (mb1_t (and_t (gdN_at hm (by have := (List.getElem?_eq_some_iff.1 hq).1; omega) hq)).1).2.2
  have hin : i < n := by have := (List.getElem?_eq_some_iff.1 hq).1; omega
  dsimp only at hs2 hg2
  have HD := ac_code1 sec askW nm no (by omega) (by decide) (by omega) (by omega) (by omega)
  have e1 : cdS sec (tx1 askW nm no) = acS sec nm no := rfl
  try rw [e1] at HD
  obtain ⟨C, hC⟩ : ∃ C, acS sec nm no = C := ⟨_, rfl⟩
  rw [hC] at HD hcd
  clear hC e1
  replace hcd : decide (cd = C) = true := decide_eq_true hcd
  have HD2 := ac_code2 sec ansW nm no nd (by omega) (by decide) (by omega) (by omega) (by omega) (by omega) (by omega)
  have e1 : cdS sec (tx2 ansW nm no nd) = nsS sec nm no nd := rfl
  try rw [e1] at HD2
  obtain ⟨C2, hC⟩ : ∃ C2, nsS sec nm no nd = C2 := ⟨_, rfl⟩
  rw [hC] at HD2 ⊢
  clear hC e1
  have HCL := ac_clM L n hn hb (by omega)
  have hlen : i < L.length := by omega
  refine acalls_of_aw Tryz.func19 rfl rfl ?_
  repeat' first | intro h1 | intro h1 | refine st (h := ok_load_rowsE (f := mbC) (cs := [.string nm2, .string sec, .int .i64 nd, .int .i64 nq]) i (fun _ => rfl) hq rfl rfl rfl rfl (by omega)) ?_ | refine sd (h := ok_str_neqE rfl rfl hcd) ?_ | refine stm (h := ok_storeN (vs := mbC ⟨nm2, sec, nd, no⟩) (cs' := (L.set i ⟨nm2, sec, nd, no⟩).flatMap mbC) rfl rfl (ListR.refl _) rfl rfl rfl rfl (splice_rows (n := 4) (f := mbC) (x := ⟨nm2, sec, nd, no⟩) (fun _ => rfl) (by first | rfl | (rw [Nat.zero_add]; rfl)) (by omega)) (by ((repeat constructor); first | done | fail)) rfl) ?_ | refine st ?_ | refine stRW [0] HM ?_ | refine st_call (HK) ?_ | refine stRW [0] HS ?_ | refine sdRW [4] HD ?_ | refine sdRW [6] HD2 ?_ | refine stMW [0] HCL ?_ | refine stm ?_ | refine Ja ?_ | refine Jb ?_ | refine Je ?_ | refine Jh ?_ ?_ | refine run_nil ?_ | refine sd ?_ | refine sdl ?_ | refine sdm (n := 1) ?_ | refine sdb ?_ | refine rund_nil ?_ | refine Jz ?_ | refine Jw ?_ | refine Jx (id := 10) [0,1,0,4,0,16,0,64,192,508,1023,2047] 12 ?_ | refine Jx (id := 23) [0,0,2,0,8,0,32,0,128,0,512,0,2048,0,8192,30720,65408,131070,130945,524287,1048575] 19 ?_ | refine aw_block ?_ | refine Jr ?_ | refine Jt ?_ | refine Jy ?_ | refine aw_ret ?_
  all_goals first | exact pm_ret _ (renumD [0, 5]) rfl
end Go.Proofs.YtdbcbclapipgdaaGreatDoor
