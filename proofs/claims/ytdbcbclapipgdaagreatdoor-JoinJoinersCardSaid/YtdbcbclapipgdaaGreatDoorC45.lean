/- Join: Hear (reference); Join: frames that are few; JoinJoiners: the law. -/
import Derived.Test.YtdbcbclapipgdaaGreatDoorVO
import Derived.Test.YtdbcbclapipgdaaGreatDoorJ
import Derived.Test.YtdbcbclapipgdaaGreatDoorC28
import Derived.Test.YtdbcbclapipgdaaGreatDoorC46
set_option linter.unusedVariables false
set_option linter.unusedSimpArgs false
namespace Go.Proofs.YtdbcbclapipgdaaGreatDoor
open Go Av
set_option maxRecDepth 20000
set_option maxHeartbeats 16000000 in
theorem ac_rHear (nm sec : ByteArray) (sj pa ep nd no tr si : Int) (L : List Fm) (n : Nat) (hn : L.length = n) (hnb : n ≤ 1000000) (hd : ∀ f ∈ L, f.dt.size ≤ 1000) (e : Int) (he : (if chJ nm sec sj pa ep nd no tr si = false then 1 else if sj ≠ 0 then 12 else if hrB L n < 0 then 14 else 0) = e) (fs fe : Int) (hf : ∀ f, L[(hrB L n).toNat]? = some f → f.sr = fs ∧ f.ep = fe) : ACalls Tryz.prog 34 [.agg #[.string nm, .string sec, .int .i64 sj, .int .i64 pa, .int .i64 ep, .int .i64 nd, .int .i64 no, .int .i64 tr, .int .i64 si], .slice (some ⟨0, 0, none⟩) n n] [some ⟨L.flatMap fmC, false, 12⟩] (.tuple #[if e = 0 then .agg #[.string nm, .string sec, .int .i64 1, .int .i64 fs, .int .i64 fe, .int .i64 nd, .int .i64 no, .int .i64 tr, .int .i64 si] else .agg #[.string ⟨#[]⟩, .string ⟨#[]⟩, .int .i64 0, .int .i64 0, .int .i64 0, .int .i64 0, .int .i64 0, .int .i64 0, .int .i64 0], .int .i64 e]) [none] := by
  obtain ⟨x, hx⟩ : ∃ x, chJ nm sec sj pa ep nd no tr si = x := ⟨_, rfl⟩
  obtain ⟨y, hy⟩ : ∃ y, decide (sj = 0) = y := ⟨_, rfl⟩
  have HC := ac_rjCheck nm sec sj pa ep nd no tr si x hx
  rw [hx] at he
  clear hx
  cases x
  · rw [if_pos rfl] at he
    subst he
    rw [if_neg (by decide)]
    clear hf hd
    cases y
    · have hy := of_decide_eq_false hy
      refine acalls_law Tryz.func34 rfl rfl rfl ?_
      repeat' first | intro h1 | intro h1 | refine st ?_ | refine st_call (HC) ?_ | refine sd_call (HC) ?_ | refine stm ?_ | refine Ja ?_ | refine Jb ?_ | refine Jc ?_ | refine Jd ?_ | refine Je ?_ | refine Jf ?_ | refine Jg ?_ | refine Jh ?_ ?_ | refine Ji ?_ ?_ | refine Jj ?_ ?_ | refine run_nil ?_ | refine sd ?_ | refine sdl ?_ | refine sdm (n := 1) ?_ | refine sdm ?_ | refine sdb ?_ | refine Jk ?_ | refine Jl ?_ | refine Jm ?_ | refine Jn ?_ ?_ | refine Jo ?_ ?_ | refine Jp ?_ ?_ | refine rund_nil ?_ | refine Jz ?_ | refine Jw ?_ | refine Jx (id := 10) [0,1,3,7,15,31,63,127,255,511,1023,1023,4095,8191,1023,1023,50175,115711,262143,524287,1048575] 21 ?_ | refine Jx (id := 14) [0,0,3,7,15,0,0,96,224,480,0,1024,3103,7199,16383,32767] 11 ?_ | refine aw_block ?_ | refine Jq ?_ | refine Jr ?_ | refine Js ?_ | refine Jt ?_ | refine Ju ?_ ?_ | refine Jv ?_ ?_ | refine Jy ?_ | refine aw_exit ?_ | refine aw_ret ?_ | refine pp_ret ?_ | refine pp_normal ?_
      all_goals first
        | rfl
        | (exfalso; omega)
        | (simp [retOf]; done)
        | (exfalso; simp_all; done)
        | (exfalso; simp only [Bool.not_eq_true', Bool.not_eq_false', decide_eq_true_eq, decide_eq_false_iff_not, Bool.not_false, Bool.not_true] at *; omega)
    · have hy := of_decide_eq_true hy
      refine acalls_law Tryz.func34 rfl rfl rfl ?_
      repeat' first | intro h1 | intro h1 | refine st ?_ | refine st_call (HC) ?_ | refine sd_call (HC) ?_ | refine stm ?_ | refine Ja ?_ | refine Jb ?_ | refine Jc ?_ | refine Jd ?_ | refine Je ?_ | refine Jf ?_ | refine Jg ?_ | refine Jh ?_ ?_ | refine Ji ?_ ?_ | refine Jj ?_ ?_ | refine run_nil ?_ | refine sd ?_ | refine sdl ?_ | refine sdm (n := 1) ?_ | refine sdm ?_ | refine sdb ?_ | refine Jk ?_ | refine Jl ?_ | refine Jm ?_ | refine Jn ?_ ?_ | refine Jo ?_ ?_ | refine Jp ?_ ?_ | refine rund_nil ?_ | refine Jz ?_ | refine Jw ?_ | refine Jx (id := 10) [0,1,3,7,15,31,63,127,255,511,1023,1023,4095,8191,1023,1023,50175,115711,262143,524287,1048575] 21 ?_ | refine Jx (id := 14) [0,0,3,7,15,0,0,96,224,480,0,1024,3103,7199,16383,32767] 11 ?_ | refine aw_block ?_ | refine Jq ?_ | refine Jr ?_ | refine Js ?_ | refine Jt ?_ | refine Ju ?_ ?_ | refine Jv ?_ ?_ | refine Jy ?_ | refine aw_exit ?_ | refine aw_ret ?_ | refine pp_ret ?_ | refine pp_normal ?_
      all_goals first
        | rfl
        | (exfalso; omega)
        | (simp [retOf]; done)
        | (exfalso; simp_all; done)
        | (exfalso; simp only [Bool.not_eq_true', Bool.not_eq_false', decide_eq_true_eq, decide_eq_false_iff_not, Bool.not_false, Bool.not_true] at *; omega)
  rw [if_neg (by decide)] at he
  cases y
  · have hy := of_decide_eq_false hy
    rw [if_pos hy] at he
    subst he
    rw [if_neg (by decide)]
    clear hf hd
    refine acalls_law Tryz.func34 rfl rfl rfl ?_
    repeat' first | intro h1 | intro h1 | refine st ?_ | refine st_call (HC) ?_ | refine sd_call (HC) ?_ | refine stm ?_ | refine Ja ?_ | refine Jb ?_ | refine Jc ?_ | refine Jd ?_ | refine Je ?_ | refine Jf ?_ | refine Jg ?_ | refine Jh ?_ ?_ | refine Ji ?_ ?_ | refine Jj ?_ ?_ | refine run_nil ?_ | refine sd ?_ | refine sdl ?_ | refine sdm (n := 1) ?_ | refine sdm ?_ | refine sdb ?_ | refine Jk ?_ | refine Jl ?_ | refine Jm ?_ | refine Jn ?_ ?_ | refine Jo ?_ ?_ | refine Jp ?_ ?_ | refine rund_nil ?_ | refine Jz ?_ | refine Jw ?_ | refine Jx (id := 10) [0,1,3,7,15,31,63,127,255,511,1023,1023,4095,8191,1023,1023,50175,115711,262143,524287,1048575] 21 ?_ | refine Jx (id := 14) [0,0,3,7,15,0,0,96,224,480,0,1024,3103,7199,16383,32767] 11 ?_ | refine aw_block ?_ | refine Jq ?_ | refine Jr ?_ | refine Js ?_ | refine Jt ?_ | refine Ju ?_ ?_ | refine Jv ?_ ?_ | refine Jy ?_ | refine aw_exit ?_ | refine aw_ret ?_ | refine pp_ret ?_ | refine pp_normal ?_
    all_goals first
      | rfl
      | (exfalso; omega)
      | (simp [retOf]; done)
      | (exfalso; simp_all; done)
      | (exfalso; simp only [Bool.not_eq_true', Bool.not_eq_false', decide_eq_true_eq, decide_eq_false_iff_not, Bool.not_false, Bool.not_true] at *; omega)
  have hy := of_decide_eq_true hy
  rw [if_neg (by omega)] at he
  refine acalls_law Tryz.func34 rfl rfl (by split <;> rfl) ?_
  repeat' first | intro h1 | intro h1 | refine st ?_ | refine st_call (HC) ?_ | refine sd_call (HC) ?_ | refine stm ?_ | refine Ja ?_ | refine Jb ?_ | refine Jc ?_ | refine Jd ?_ | refine Je ?_ | refine Jf ?_ | refine Jg ?_ | refine Jh ?_ ?_ | refine Ji ?_ ?_ | refine Jj ?_ ?_ | refine run_nil ?_ | refine sd ?_ | refine sdl ?_ | refine sdm (n := 1) ?_ | refine sdm ?_ | refine sdb ?_ | refine Jk ?_ | refine Jl ?_ | refine Jm ?_ | refine Jn ?_ ?_ | refine Jo ?_ ?_ | refine Jp ?_ ?_ | refine rund_nil ?_ | refine Jz ?_ | refine Jw ?_ | refine Jx (id := 10) [0,1,3,7,15,31,63,127,255,511,1023,1023,4095,8191,1023,1023,50175,115711,262143,524287,1048575] 21 ?_ | refine Jx (id := 14) [0,0,3,7,15,0,0,96,224,480,0,1024,3103,7199,16383,32767] 11 ?_ | refine aw_block ?_ | refine Jq ?_ | refine Jr ?_ | refine Js ?_ | refine Jt ?_ | refine Ju ?_ ?_ | refine Jv ?_ ?_ | refine Jy ?_ | refine aw_exit ?_ | refine aw_ret ?_ | refine pp_ret ?_ | refine pp_normal ?_
  all_goals try (exfalso; omega)
  clear HC
  refine aw_loopg
    (S := fun y : Hq => [(1, .slice (some ⟨0, 0, none⟩) n n), (2, .pointer (some ⟨1, 0, none⟩)), (4, .pointer (some ⟨2, 0, none⟩)), (6, .int .i64 (hrB L y.i)), (7, .int .i64 y.i)])
    (B := fun _ : Hq => [some ⟨L.flatMap fmC, false, 12⟩, some ⟨[.string nm, .string sec, .int .i64 sj, .int .i64 pa, .int .i64 ep, .int .i64 nd, .int .i64 no, .int .i64 tr, .int .i64 si], true, 1⟩, some ⟨[.string ⟨#[]⟩, .string ⟨#[]⟩, .int .i64 0, .int .i64 0, .int .i64 0, .int .i64 0, .int .i64 0, .int .i64 0, .int .i64 0], true, 1⟩])
    (R := fun y : Hq => y.i ≤ n)
    (μ := fun y : Hq => n - y.i) ⟨0⟩ (fitsD [0, 1, 2]) (Nat.zero_le _) ?_
  rintro ⟨i⟩ g1
  dsimp only at g1 ⊢
  have hbd := hrB_bd L i
  by_cases hi : i < n
  · obtain ⟨f, hq⟩ : ∃ f, L[i]? = some f := ⟨_, List.getElem?_eq_getElem (by omega)⟩
    have hds := hd f (List.mem_of_getElem? hq)
    clear hf he hd
    obtain ⟨kd, sr, tg, li, sq, fl, nu, er, sx, rk, eo, dt⟩ := f
    dsimp only at hds
    obtain ⟨⟨m1, op, m3, m4, m5, m6, m7⟩, z, hres⟩ : ∃ m z, readO (isC kd sr tg li sq fl nu er sx rk eo) dt = (m, z) := ⟨_, _, rfl⟩
    have hop : opF ⟨kd, sr, tg, li, sq, fl, nu, er, sx, rk, eo, dt⟩ = (decide (z = 0) && op) := by
      unfold opF isF
      dsimp only
      rw [hres]
    by_cases hz : z = 0
    · rw [decide_eq_true hz, Bool.true_and] at hop
      cases op with
      | false => exact r_no0 nm sec sj pa ep nd no tr si L n i hn hnb hi kd sr tg li sq fl nu er sx rk eo dt hq hds m1 false m3 m4 m5 m6 m7 z hres (hrB_no hq hop) hz
      | true =>
        by_cases hb0 : hrB L i < 0
        · exact r_fst nm sec sj pa ep nd no tr si L n i hn hnb hi kd sr tg li sq fl nu er sx rk eo dt hq hds m1 false m3 m4 m5 m6 m7 z hres (hrB_first hq hop hb0) hz hb0
        · obtain ⟨b, hb⟩ : ∃ b : Nat, hrB L i = b := ⟨(hrB L i).toNat, by omega⟩
          obtain ⟨⟨kd', sr', tg', li', sq', fl', nu', er', sx', rk', eo', dt'⟩, hg⟩ : ∃ g, L[b]? = some g := ⟨_, List.getElem?_eq_getElem (by omega)⟩
          have hnx := hrB_bt hq hop hb hg
          unfold btF isF at hnx
          dsimp only at hnx
          cases hv : betC (isC kd sr tg li sq fl nu er sx rk eo) (isC kd' sr' tg' li' sq' fl' nu' er' sx' rk' eo') eo rk sr eo' rk' sr' with
          | false =>
            rw [hv, if_neg (by decide)] at hnx
            exact r_bt0 nm sec sj pa ep nd no tr si L n i hn hnb hi kd sr tg li sq fl nu er sx rk eo dt hq hds m1 false m3 m4 m5 m6 m7 z hres b hb kd' sr' tg' li' sq' fl' nu' er' sx' rk' eo' dt' hg hnx hz hv
          | true =>
            rw [hv, if_pos rfl] at hnx
            exact r_bt1 nm sec sj pa ep nd no tr si L n i hn hnb hi kd sr tg li sq fl nu er sx rk eo dt hq hds m1 false m3 m4 m5 m6 m7 z hres b hb kd' sr' tg' li' sq' fl' nu' er' sx' rk' eo' dt' hg hnx hz hv
    · rw [decide_eq_false hz, Bool.false_and] at hop
      exact r_no1 nm sec sj pa ep nd no tr si L n i hn hnb hi kd sr tg li sq fl nu er sx rk eo dt hq hds m1 op m3 m4 m5 m6 m7 z hres (hrB_no hq hop) hz
  · obtain rfl : i = n := by omega
    by_cases hb0 : hrB L i < 0
    · rw [if_pos hb0] at he
      subst he
      rw [if_neg (by decide)]
      obtain ⟨B, hB⟩ : ∃ B, hrB L i = B := ⟨_, rfl⟩
      rw [hB] at hb0 ⊢
      clear hf hd
      repeat' first | intro h1 | intro h1 | refine st ?_ | refine st_call (HC) ?_ | refine sd_call (HC) ?_ | refine stm ?_ | refine Ja ?_ | refine Jb ?_ | refine Jc ?_ | refine Jd ?_ | refine Je ?_ | refine Jf ?_ | refine Jg ?_ | refine Jh ?_ ?_ | refine Ji ?_ ?_ | refine Jj ?_ ?_ | refine run_nil ?_ | refine sd ?_ | refine sdl ?_ | refine sdm (n := 1) ?_ | refine sdm ?_ | refine sdb ?_ | refine Jk ?_ | refine Jl ?_ | refine Jm ?_ | refine Jn ?_ ?_ | refine Jo ?_ ?_ | refine Jp ?_ ?_ | refine rund_nil ?_ | refine Jz ?_ | refine Jw ?_ | refine Jx (id := 10) [0,1,3,7,15,31,63,127,255,511,1023,1023,4095,8191,1023,1023,50175,115711,262143,524287,1048575] 21 ?_ | refine Jx (id := 14) [0,0,3,7,15,0,0,96,224,480,0,1024,3103,7199,16383,32767] 11 ?_ | refine aw_block ?_ | refine Jq ?_ | refine Jr ?_ | refine Js ?_ | refine Jt ?_ | refine Ju ?_ ?_ | refine Jv ?_ ?_ | refine Jy ?_ | refine aw_exit ?_ | refine aw_ret ?_ | refine pp_ret ?_ | refine pp_normal ?_
      all_goals first
        | rfl
        | (exfalso; omega)
        | (simp [retOf]; done)
        | (exfalso; simp_all; done)
        | (exfalso; simp only [Bool.not_eq_true', Bool.not_eq_false', decide_eq_true_eq, decide_eq_false_iff_not, Bool.not_false, Bool.not_true] at *; omega)
    · rw [if_neg hb0] at he
      subst he
      rw [if_pos rfl]
      obtain ⟨b, hb⟩ : ∃ b : Nat, hrB L i = b := ⟨(hrB L i).toNat, by omega⟩
      obtain ⟨f, hq⟩ : ∃ f, L[b]? = some f := ⟨_, List.getElem?_eq_getElem (by omega)⟩
      obtain ⟨e1, e2⟩ := hf f (by rw [hb, Int.toNat_natCast]; exact hq)
      rw [hb] at hb0 ⊢
      clear hf hd
      subst e1 e2
      obtain ⟨kd, sr, tg, li, sq, fl, nu, er, sx, rk, eo, dt⟩ := f
      dsimp only
      repeat' first | intro h1 | intro h1 | refine Rol.aw_region_q (id := 14) [0, 0, 3, 7, 15, 0, 0, 96, 224, 480, 0, 1024, 3103, 7199, 16383, 32767] [4, 9] [some ⟨L.flatMap fmC, false, 12⟩, none, none] (by kernel_rfl) (by kernel_rfl) (by kernel_rfl) (by rfl) (by (repeat (first | exact Rol.LowR.nil | refine Rol.LowR.keep rfl ?_ | refine Rol.LowR.none ?_))) ?_ | refine Rol.qp (v := .int .i64 sr) (h := ok_load_rowcellE (f := fmC) (n := 12) b 1 (fun _ => rfl) hq rfl (by omega) rfl rfl rfl (by omega)) ?_ | refine Rol.qp (v := .int .i64 eo) (h := ok_load_rowcellE (f := fmC) (n := 12) b 10 (fun _ => rfl) hq rfl (by omega) rfl rfl rfl (by omega)) ?_ | refine sdl (v := .int .i64 sr) (h := ok_load_rowcellE (f := fmC) (n := 12) b 1 (fun _ => rfl) hq rfl (by omega) rfl rfl rfl (by omega)) ?_ | refine sdl (v := .int .i64 eo) (h := ok_load_rowcellE (f := fmC) (n := 12) b 10 (fun _ => rfl) hq rfl (by omega) rfl rfl rfl (by omega)) ?_ | refine sd (v := .int .i64 sr) (h := ok_load_rowcellE (f := fmC) (n := 12) b 1 (fun _ => rfl) hq rfl (by omega) rfl rfl rfl (by omega)) ?_ | refine sd (v := .int .i64 eo) (h := ok_load_rowcellE (f := fmC) (n := 12) b 10 (fun _ => rfl) hq rfl (by omega) rfl rfl rfl (by omega)) ?_ | refine st (v := .int .i64 sr) (h := ok_load_rowcellE (f := fmC) (n := 12) b 1 (fun _ => rfl) hq rfl (by omega) rfl rfl rfl (by omega)) ?_ | refine st (v := .int .i64 eo) (h := ok_load_rowcellE (f := fmC) (n := 12) b 10 (fun _ => rfl) hq rfl (by omega) rfl rfl rfl (by omega)) ?_ | refine Rol.qp (by first | (apply ok_move; rfl) | (apply ok_fieldAddr; rfl; rfl; infer_instance; rfl) | (apply ok_indexAddr_slice; rfl; rfl; omega)) ?_ | refine Rol.qs (by (apply ok_storeN; rfl; rfl; (focus first | ((repeat constructor); first | done | fail) | exact ListR.refl _); rfl; rfl; rfl; rfl; (focus ((repeat constructor); first | done | fail)); (focus ((repeat constructor); first | done | fail)); rfl)) ?_ | refine Rol.qnil ?_ | refine st ?_ | refine stm ?_ | refine Ja ?_ | refine Jb ?_ | refine Jc ?_ | refine Jd ?_ | refine Je ?_ | refine Jf ?_ | refine Jg ?_ | refine Jh ?_ ?_ | refine Ji ?_ ?_ | refine Jj ?_ ?_ | refine run_nil ?_ | refine sd ?_ | refine sdl ?_ | refine sdm (n := 1) ?_ | refine sdm ?_ | refine sdb ?_ | refine Jk ?_ | refine Jl ?_ | refine Jm ?_ | refine Jn ?_ ?_ | refine Jo ?_ ?_ | refine Jp ?_ ?_ | refine rund_nil ?_ | refine Jz ?_ | refine Jw ?_ | refine Jx (id := 10) [0,1,3,7,15,31,63,127,255,511,1023,1023,4095,8191,1023,1023,50175,115711,262143,524287,1048575] 21 ?_ | refine Jx (id := 14) [0,0,3,7,15,0,0,96,224,480,0,1024,3103,7199,16383,32767] 11 ?_ | refine aw_block ?_ | refine Jq ?_ | refine Jr ?_ | refine Js ?_ | refine Jt ?_ | refine Ju ?_ ?_ | refine Jv ?_ ?_ | refine Jy ?_ | refine aw_exit ?_ | refine aw_ret ?_ | refine pp_ret ?_ | refine pp_normal ?_
      all_goals first
        | rfl
        | (exfalso; omega)
        | (simp [retOf]; done)
        | (exfalso; simp_all; done)
        | (exfalso; simp only [Bool.not_eq_true', Bool.not_eq_false', decide_eq_true_eq, decide_eq_false_iff_not, Bool.not_false, Bool.not_true] at *; omega)
theorem ac_ff1 (kd sr tg li sq fl nu er sx rk eo : Int) (dt : ByteArray) (x : Bool) (hx : decide (200 < dt.size) = x) : ACalls Tryz.prog 78 [.agg #[.int .i64 kd, .int .i64 sr, .int .i64 tg, .int .i64 li, .int .i64 sq, .int .i64 fl, .int .i64 nu, .int .i64 er, .int .i64 sx, .int .i64 rk, .int .i64 eo, .string dt]] [] (.bool x) [] := by
  refine acalls_law Tryz.func78 rfl rfl rfl ?_
  repeat' first | intro h1 | intro h1 | refine st ?_ | refine stm ?_ | refine Ja ?_ | refine Jb ?_ | refine Jc ?_ | refine Jd ?_ | refine Je ?_ | refine Jf ?_ | refine Jg ?_ | refine Jh ?_ ?_ | refine Ji ?_ ?_ | refine Jj ?_ ?_ | refine run_nil ?_ | refine Jz ?_ | refine Jw ?_ | refine aw_block ?_ | refine Jq ?_ | refine Jr ?_ | refine Js ?_ | refine Jt ?_ | refine Ju ?_ ?_ | refine Jv ?_ ?_ | refine Jy ?_ | refine aw_exit ?_ | refine aw_ret ?_ | refine pp_ret ?_ | refine pp_normal ?_
  all_goals first
    | rfl
    | (exfalso; omega)
    | (rw [← hx]; refine congrArg Value.bool ?_; first | exact (decide_eq_true (by omega)).symm | exact (decide_eq_false (by omega)).symm | exact decide_eq_decide.2 (by omega))
    | (rw [← hx]; show Value.bool _ = Value.bool _; congr 1; first | exact (decide_eq_true (by omega)).symm | exact (decide_eq_false (by omega)).symm | exact decide_eq_decide.2 (by omega) | (rw [← decide_not]; exact decide_eq_decide.2 (by omega)))
    | (exfalso; simp only [Bool.not_eq_true', Bool.not_eq_false', decide_eq_true_eq, decide_eq_false_iff_not, Bool.not_false, Bool.not_true] at *; omega)
    | (simp [retOf]; done)
    | (exfalso; simp_all; done)
set_option maxHeartbeats 4000000 in
theorem ac_ffi (L : List Fm) (n : Nat) (hn : L.length = n) (hb : n ≤ 9000000000000000000) (x : Int) (hx : fdx (fun f : Fm => decide (200 < f.dt.size)) L = x) : ACalls Tryz.prog 114 [.slice (some ⟨0, 0, none⟩) n n, .func (.func 78) #[] #[]] [some ⟨L.flatMap fmC, false, 12⟩] (.int .i64 x) [none] := by
  refine acalls_law Tryz.func114 rfl rfl rfl ?_
  repeat' first | intro h1 | intro h1 | refine st ?_ | refine stm ?_ | refine Ja ?_ | refine Jb ?_ | refine Jc ?_ | refine Jd ?_ | refine Je ?_ | refine Jf ?_ | refine Jg ?_ | refine Jh ?_ ?_ | refine Ji ?_ ?_ | refine Jj ?_ ?_ | refine run_nil ?_ | refine Jz ?_ | refine Jw ?_ | refine aw_block ?_ | refine Jq ?_ | refine Jr ?_ | refine Js ?_ | refine Jt ?_ | refine Ju ?_ ?_ | refine Jv ?_ ?_ | refine Jy ?_ | refine aw_exit ?_ | refine aw_ret ?_ | refine pp_ret ?_ | refine pp_normal ?_
  refine aw_loopg
    (S := fun y : Ki => [(0, .slice (some ⟨0, 0, none⟩) n n), (1, .func (.func 78) #[] #[]), (6, .slice (some ⟨0, 0, none⟩) n n), (7, .int .i64 n), (8, .int .i64 y.i)])
    (B := fun _ : Ki => [some ⟨L.flatMap fmC, false, 12⟩])
    (R := fun y : Ki => y.i ≤ n ∧ ∀ (j : Nat), j < y.i → ∀ m, L[j]? = some m → (fun f : Fm => decide (200 < f.dt.size)) m = false)
    (μ := fun y : Ki => n - y.i) ⟨0⟩ (fitsD [0]) ⟨Nat.zero_le _, fun j hj => absurd hj (Nat.not_lt_zero _)⟩ ?_
  rintro ⟨i⟩ ⟨g1, g2⟩
  dsimp only at *
  by_cases hi : i < n
  · obtain ⟨⟨kd, sr, tg, li, sq, fl, nu, er, sx, rk, eo, dt⟩, hq⟩ : ∃ m, L[i]? = some m := ⟨_, List.getElem?_eq_getElem (by omega)⟩
    by_cases heq : 200 < dt.size
    · have H := ac_ff1 kd sr tg li sq fl nu er sx rk eo dt true (decide_eq_true heq)
      obtain rfl : x = i := by rw [← hx]; exact fdx_at (q := fun f : Fm => decide (200 < f.dt.size)) hq (decide_eq_true heq) g2
      repeat' first | intro h1 | intro h1 | refine st (h := ok_load_rowsE (f := fmC) (cs := [.int .i64 kd, .int .i64 sr, .int .i64 tg, .int .i64 li, .int .i64 sq, .int .i64 fl, .int .i64 nu, .int .i64 er, .int .i64 sx, .int .i64 rk, .int .i64 eo, .string dt]) i (fun _ => rfl) hq rfl rfl rfl rfl (by omega)) ?_ | refine st ?_ | refine st_call (H) ?_ | refine sd_call (H) ?_ | refine stm ?_ | refine Ja ?_ | refine Jb ?_ | refine Jc ?_ | refine Jd ?_ | refine Je ?_ | refine Jf ?_ | refine Jg ?_ | refine Jh ?_ ?_ | refine Ji ?_ ?_ | refine Jj ?_ ?_ | refine run_nil ?_ | refine Jz ?_ | refine Jw ?_ | refine aw_block ?_ | refine Jq ?_ | refine Jr ?_ | refine Js ?_ | refine Jt ?_ | refine Ju ?_ ?_ | refine Jv ?_ ?_ | refine Jy ?_ | refine aw_exit ?_ | refine aw_ret ?_ | refine pp_ret ?_ | refine pp_normal ?_
      all_goals first
        | rfl
        | (exfalso; omega)
        | (simp [retOf]; done)
        | (exfalso; simp_all; done)
        | (exfalso; simp only [Bool.not_eq_true', Bool.not_eq_false', decide_eq_true_eq, decide_eq_false_iff_not, Bool.not_false, Bool.not_true] at *; omega)
    · have H := ac_ff1 kd sr tg li sq fl nu er sx rk eo dt false (decide_eq_false heq)
      have hst := fdx_step (q := fun f : Fm => decide (200 < f.dt.size)) g2 hq (decide_eq_false heq)
      repeat' first | intro h1 | intro h1 | refine st (h := ok_load_rowsE (f := fmC) (cs := [.int .i64 kd, .int .i64 sr, .int .i64 tg, .int .i64 li, .int .i64 sq, .int .i64 fl, .int .i64 nu, .int .i64 er, .int .i64 sx, .int .i64 rk, .int .i64 eo, .string dt]) i (fun _ => rfl) hq rfl rfl rfl rfl (by omega)) ?_ | refine st ?_ | refine st_call (H) ?_ | refine sd_call (H) ?_ | refine stm ?_ | refine Ja ?_ | refine Jb ?_ | refine Jc ?_ | refine Jd ?_ | refine Je ?_ | refine Jf ?_ | refine Jg ?_ | refine Jh ?_ ?_ | refine Ji ?_ ?_ | refine Jj ?_ ?_ | refine run_nil ?_ | refine Jz ?_ | refine Jw ?_ | refine aw_block ?_ | refine Jq ?_ | refine Jr ?_ | refine Js ?_ | refine Jt ?_ | refine Ju ?_ ?_ | refine Jv ?_ ?_ | refine Jy ?_ | refine aw_exit ?_ | refine aw_ret ?_ | refine pp_ret ?_ | refine pp_normal ?_
      all_goals first | exact Exists.intro ⟨i + 1⟩ ⟨fitsD [0], ⟨hi, hst⟩, by dsimp only; omega⟩ | (exfalso; omega)
  · obtain rfl : i = n := by omega
    obtain rfl : x = -1 := by rw [← hx]; exact fdx_no (by rw [hn]; exact g2)
    repeat' first | intro h1 | intro h1 | refine st ?_ | refine stm ?_ | refine Ja ?_ | refine Jb ?_ | refine Jc ?_ | refine Jd ?_ | refine Je ?_ | refine Jf ?_ | refine Jg ?_ | refine Jh ?_ ?_ | refine Ji ?_ ?_ | refine Jj ?_ ?_ | refine run_nil ?_ | refine Jz ?_ | refine Jw ?_ | refine aw_block ?_ | refine Jq ?_ | refine Jr ?_ | refine Js ?_ | refine Jt ?_ | refine Ju ?_ ?_ | refine Jv ?_ ?_ | refine Jy ?_ | refine aw_exit ?_ | refine aw_ret ?_ | refine pp_ret ?_ | refine pp_normal ?_
    all_goals first
      | rfl
      | (exfalso; omega)
      | (simp [retOf]; done)
      | (exfalso; simp_all; done)
      | (exfalso; simp only [Bool.not_eq_true', Bool.not_eq_false', decide_eq_true_eq, decide_eq_false_iff_not, Bool.not_false, Bool.not_true] at *; omega)
set_option maxHeartbeats 4000000 in
theorem ac_ffc (L : List Fm) (n : Nat) (hn : L.length = n) (hb : n ≤ 9000000000000000000) (x : Bool) (hx : decide (0 ≤ fdx (fun f : Fm => decide (200 < f.dt.size)) L) = x) : ACalls Tryz.prog 77 [.slice (some ⟨0, 0, none⟩) n n, .func (.func 78) #[] #[]] [some ⟨L.flatMap fmC, false, 12⟩] (.bool x) [none] := by
  obtain ⟨z, hz⟩ : ∃ z, fdx (fun f : Fm => decide (200 < f.dt.size)) L = z := ⟨_, rfl⟩
  have H := ac_ffi L n hn hb z hz
  rw [hz] at hx
  clear hz
  refine acalls_law Tryz.func77 rfl rfl rfl ?_
  repeat' first | intro h1 | intro h1 | refine st ?_ | refine stRW [0] H ?_ | refine sdRW [0] H ?_ | refine stm ?_ | refine Ja ?_ | refine Jb ?_ | refine Jc ?_ | refine Jd ?_ | refine Je ?_ | refine Jf ?_ | refine Jg ?_ | refine Jh ?_ ?_ | refine Ji ?_ ?_ | refine Jj ?_ ?_ | refine run_nil ?_ | refine Jz ?_ | refine Jw ?_ | refine aw_block ?_ | refine Jq ?_ | refine Jr ?_ | refine Js ?_ | refine Jt ?_ | refine Ju ?_ ?_ | refine Jv ?_ ?_ | refine Jy ?_ | refine aw_exit ?_ | refine aw_ret ?_ | refine pp_ret ?_ | refine pp_normal ?_
  all_goals first
    | rfl
    | (exfalso; omega)
    | (rw [← hx]; refine congrArg Value.bool ?_; first | exact (decide_eq_true (by omega)).symm | exact (decide_eq_false (by omega)).symm | exact decide_eq_decide.2 (by omega))
    | (rw [← hx]; show Value.bool _ = Value.bool _; congr 1; first | exact (decide_eq_true (by omega)).symm | exact (decide_eq_false (by omega)).symm | exact decide_eq_decide.2 (by omega) | (rw [← decide_not]; exact decide_eq_decide.2 (by omega)))
    | (exfalso; simp only [Bool.not_eq_true', Bool.not_eq_false', decide_eq_true_eq, decide_eq_false_iff_not, Bool.not_false, Bool.not_true] at *; omega)
    | (simp [retOf]; done)
    | (exfalso; simp_all; done)
set_option maxHeartbeats 4000000 in
theorem ac_fewFrames (L : List Fm) (n : Nat) (hn : L.length = n) : ∃ x : Bool, (x = true → n ≤ 20 ∧ ∀ f ∈ L, f.dt.size ≤ 200) ∧ ACalls Tryz.prog 30 [.slice (some ⟨0, 0, none⟩) n n] [some ⟨L.flatMap fmC, false, 12⟩] (.bool x) [none] := by
  by_cases h1 : n ≤ 20
  · obtain ⟨z, hz⟩ : ∃ z, decide (0 ≤ fdx (fun f : Fm => decide (200 < f.dt.size)) L) = z := ⟨_, rfl⟩
    have H := ac_ffc L n hn (by omega) z hz
    have hall : z = false → ∀ f ∈ L, f.dt.size ≤ 200 := fun h f hf => by
      rw [h] at hz
      refine Nat.not_lt.1 fun hlt => of_decide_eq_false hz (fdx_pos.2 ⟨f, hf, decide_eq_true hlt⟩)
    refine ⟨!z, fun h => ⟨h1, hall (by cases z with | false => rfl | true => cases h)⟩, ?_⟩
    clear hall hz
    refine acalls_law Tryz.func30 rfl rfl rfl ?_
    repeat' first | intro h1 | intro h1 | refine st (h := ok_not_dec2 rfl) ?_ | refine st ?_ | refine stRW [0] H ?_ | refine sdRW [0] H ?_ | refine stm ?_ | refine Ja ?_ | refine Jb ?_ | refine Jc ?_ | refine Jd ?_ | refine Je ?_ | refine Jf ?_ | refine Jg ?_ | refine Jh ?_ ?_ | refine Ji ?_ ?_ | refine Jj ?_ ?_ | refine run_nil ?_ | refine Jz ?_ | refine Jw ?_ | refine aw_block ?_ | refine Jq ?_ | refine Jr ?_ | refine Js ?_ | refine Jt ?_ | refine Ju ?_ ?_ | refine Jv ?_ ?_ | refine Jy ?_ | refine aw_exit ?_ | refine aw_ret ?_ | refine pp_ret ?_ | refine pp_normal ?_
    all_goals first
      | rfl
      | (exfalso; omega)
      | (simp [retOf]; done)
      | (exfalso; simp_all; done)
      | (exfalso; simp only [Bool.not_eq_true', Bool.not_eq_false', decide_eq_true_eq, decide_eq_false_iff_not, Bool.not_false, Bool.not_true] at *; omega)
  · refine ⟨false, (fun h => by cases h), ?_⟩
    refine acalls_law Tryz.func30 rfl rfl rfl ?_
    repeat' first | intro h1 | intro h1 | refine st (h := ok_not_dec2 rfl) ?_ | refine st ?_ | refine stm ?_ | refine Ja ?_ | refine Jb ?_ | refine Jc ?_ | refine Jd ?_ | refine Je ?_ | refine Jf ?_ | refine Jg ?_ | refine Jh ?_ ?_ | refine Ji ?_ ?_ | refine Jj ?_ ?_ | refine run_nil ?_ | refine Jz ?_ | refine Jw ?_ | refine aw_block ?_ | refine Jq ?_ | refine Jr ?_ | refine Js ?_ | refine Jt ?_ | refine Ju ?_ ?_ | refine Jv ?_ ?_ | refine Jy ?_ | refine aw_exit ?_ | refine aw_ret ?_ | refine pp_ret ?_ | refine pp_normal ?_
    all_goals first
      | rfl
      | (exfalso; omega)
      | (simp [retOf]; done)
      | (exfalso; simp_all; done)
      | (exfalso; simp only [Bool.not_eq_true', Bool.not_eq_false', decide_eq_true_eq, decide_eq_false_iff_not, Bool.not_false, Bool.not_true] at *; omega)
/-- Start, both. -/
theorem pr_start (nm sec : ByteArray) : ∃ (n2 s2 : ByteArray) (a2 b2 c2 d2 e2 f2 g2 : Int) (e : Int), ACalls Tryz.prog 31 [.string nm, .string sec] [] (.tuple #[.agg #[.string n2, .string s2, .int .i64 a2, .int .i64 b2, .int .i64 c2, .int .i64 d2, .int .i64 e2, .int .i64 f2, .int .i64 g2], .int .i64 e]) [] ∧ ACalls Tryz.prog 32 [.string nm, .string sec] [] (.tuple #[.agg #[.string n2, .string s2, .int .i64 a2, .int .i64 b2, .int .i64 c2, .int .i64 d2, .int .i64 e2, .int .i64 f2, .int .i64 g2], .int .i64 e]) [] := by
  have h1 := ac_jStart nm sec
  have h2 := ac_rjStart nm sec
  cases hn : nmB nm <;> cases hs : scB sec <;> rw [hn, hs] at h1 h2 <;> exact ⟨_, _, _, _, _, _, _, _, _, _, h1, h2⟩
/-- Hear, both. -/
theorem pr_hear (nm sec : ByteArray) (sj pa ep nd no tr si : Int) (L : List Fm) (n : Nat) (hn : L.length = n) (hnb : n ≤ 1000000) (hd : ∀ f ∈ L, f.dt.size ≤ 1000) : ∃ (n2 s2 : ByteArray) (a2 b2 c2 d2 e2 f2 g2 : Int) (e : Int), ACalls Tryz.prog 33 [.agg #[.string nm, .string sec, .int .i64 sj, .int .i64 pa, .int .i64 ep, .int .i64 nd, .int .i64 no, .int .i64 tr, .int .i64 si], .slice (some ⟨0, 0, none⟩) n n] [some ⟨L.flatMap fmC, false, 12⟩] (.tuple #[.agg #[.string n2, .string s2, .int .i64 a2, .int .i64 b2, .int .i64 c2, .int .i64 d2, .int .i64 e2, .int .i64 f2, .int .i64 g2], .int .i64 e]) [none] ∧ ACalls Tryz.prog 34 [.agg #[.string nm, .string sec, .int .i64 sj, .int .i64 pa, .int .i64 ep, .int .i64 nd, .int .i64 no, .int .i64 tr, .int .i64 si], .slice (some ⟨0, 0, none⟩) n n] [some ⟨L.flatMap fmC, false, 12⟩] (.tuple #[.agg #[.string n2, .string s2, .int .i64 a2, .int .i64 b2, .int .i64 c2, .int .i64 d2, .int .i64 e2, .int .i64 f2, .int .i64 g2], .int .i64 e]) [none] := by
  obtain ⟨e, he⟩ : ∃ e, (if chJ nm sec sj pa ep nd no tr si = false then 1 else if sj ≠ 0 then 12 else if hrB L n < 0 then 14 else 0 : Int) = e := ⟨_, rfl⟩
  obtain ⟨fs, fe, hf⟩ : ∃ fs fe : Int, ∀ f, L[(hrB L n).toNat]? = some f → f.sr = fs ∧ f.ep = fe := by
    cases hq : L[(hrB L n).toNat]? with
    | none => exact ⟨0, 0, fun f hf => by cases hf⟩
    | some g => exact ⟨g.sr, g.ep, fun f hf => by cases hf; exact ⟨rfl, rfl⟩⟩
  have h1 := ac_jHear nm sec sj pa ep nd no tr si L n hn hnb hd e he fs fe hf
  have h2 := ac_rHear nm sec sj pa ep nd no tr si L n hn hnb hd e he fs fe hf
  by_cases h0 : e = 0
  · rw [if_pos h0] at h1 h2
    exact ⟨_, _, _, _, _, _, _, _, _, e, h1, h2⟩
  · rw [if_neg h0] at h1 h2
    exact ⟨_, _, _, _, _, _, _, _, _, e, h1, h2⟩
/-- Wait, both. -/
theorem pr_wait (nm sec : ByteArray) (sj pa ep nd no tr si : Int) (slot w : Int) (hr : -9223372036854775808 ≤ slot ∧ slot ≤ 9223372036854775807) : ∃ (n2 s2 : ByteArray) (a2 b2 c2 d2 e2 f2 g2 : Int) (x : Bool), ACalls Tryz.prog 35 [.agg #[.string nm, .string sec, .int .i64 sj, .int .i64 pa, .int .i64 ep, .int .i64 nd, .int .i64 no, .int .i64 tr, .int .i64 si], .int .i64 slot, .int .i64 w] [] (.tuple #[.agg #[.string n2, .string s2, .int .i64 a2, .int .i64 b2, .int .i64 c2, .int .i64 d2, .int .i64 e2, .int .i64 f2, .int .i64 g2], .bool x]) [] ∧ ACalls Tryz.prog 36 [.agg #[.string nm, .string sec, .int .i64 sj, .int .i64 pa, .int .i64 ep, .int .i64 nd, .int .i64 no, .int .i64 tr, .int .i64 si], .int .i64 slot, .int .i64 w] [] (.tuple #[.agg #[.string n2, .string s2, .int .i64 a2, .int .i64 b2, .int .i64 c2, .int .i64 d2, .int .i64 e2, .int .i64 f2, .int .i64 g2], .bool x]) [] := by
  cases h : (chJ nm sec sj pa ep nd no tr si && decide (sj = 2 ∧ 0 ≤ slot ∧ w ≤ slot - si)) with
  | false => exact ⟨_, _, _, _, _, _, _, _, _, false, ac_jWait0 nm sec sj pa ep nd no tr si slot w hr h, ac_rjWait0 nm sec sj pa ep nd no tr si slot w hr h⟩
  | true =>
    by_cases ht : tr = 4
    · exact ⟨_, _, _, _, _, _, _, _, _, true, ac_jWait1 nm sec sj pa ep nd no tr si slot w hr h ht, ac_rjWait1 nm sec sj pa ep nd no tr si slot w hr h ht⟩
    · exact ⟨_, _, _, _, _, _, _, _, _, true, ac_jWait2 nm sec sj pa ep nd no tr si slot w hr h ht, ac_rjWait2 nm sec sj pa ep nd no tr si slot w hr h ht⟩
set_option maxHeartbeats 16000000 in
theorem law_joiners (nm sec : ByteArray) (sj pa ep nd no tr si : Int) (L : List Fm) (n : Nat) (hn : L.length = n) (slot w : Int) (hr : -9223372036854775808 ≤ slot ∧ slot ≤ 9223372036854775807) : ACalls Tryz.prog 7 [.agg #[.string nm, .string sec, .int .i64 sj, .int .i64 pa, .int .i64 ep, .int .i64 nd, .int .i64 no, .int .i64 tr, .int .i64 si], .slice (some ⟨0, 0, none⟩) n n, .int .i64 slot, .int .i64 w] [some ⟨L.flatMap fmC, false, 12⟩] (.bool true) [none] := by
  have HK := ac_awake
  have HW := ac_few nm sec sj pa ep nd no tr si
  obtain ⟨x, hx, HF⟩ := ac_fewFrames L n hn
  by_cases h1 : nm.size ≤ 60 ∧ sec.size ≤ 60
  case neg =>
    rw [decide_eq_false h1] at HW
    refine acalls_law Tryz.func7 rfl rfl rfl ?_
    repeat' first | intro h1 | intro h1 | refine st (h := ok_not_dec2 rfl) ?_ | refine sd (h := ok_not_dec2 rfl) ?_ | refine st ?_ | refine st_call (HK) ?_ | refine st_call (HW) ?_ | refine sd_call (HK) ?_ | refine sd_call (HW) ?_ | refine stRW [0] HF ?_ | refine sdRW [0] HF ?_ | refine stm ?_ | refine Ja ?_ | refine Jb ?_ | refine Jc ?_ | refine Jd ?_ | refine Je ?_ | refine Jf ?_ | refine Jg ?_ | refine Jh ?_ ?_ | refine Ji ?_ ?_ | refine Jj ?_ ?_ | refine run_nil ?_ | refine sd ?_ | refine sdl ?_ | refine sdm (n := 1) ?_ | refine sdm ?_ | refine sdb ?_ | refine Jk ?_ | refine Jl ?_ | refine Jm ?_ | refine Jn ?_ ?_ | refine Jo ?_ ?_ | refine Jp ?_ ?_ | refine rund_nil ?_ | refine Jz ?_ | refine Jw ?_ | refine Jx (id := 11) [0,1,0,7,15,31,63,63,255,511,1023,2047,2047,8191,16383,32767,65535,65535,262143,524287,1048575,2097151,2097151,8388607,16777215,33554431,67108863,67108863,268435455,536870911,1073741823,2147483647,2147483647,8589934591,17179869183,34359738367] 36 ?_ | refine aw_block ?_ | refine Jq ?_ | refine Jr ?_ | refine Js ?_ | refine Jt ?_ | refine Ju ?_ ?_ | refine Jv ?_ ?_ | refine Jy ?_ | refine aw_exit ?_ | refine aw_ret ?_ | refine pp_ret ?_ | refine pp_normal ?_
    all_goals first
      | rfl
      | (exfalso; omega)
      | (simp [retOf]; done)
      | (exfalso; simp_all; done)
      | (exfalso; simp only [Bool.not_eq_true', Bool.not_eq_false', decide_eq_true_eq, decide_eq_false_iff_not, Bool.not_false, Bool.not_true] at *; omega)
  rw [decide_eq_true h1] at HW
  cases x with
  | false =>
    clear hx
    refine acalls_law Tryz.func7 rfl rfl rfl ?_
    repeat' first | intro h1 | intro h1 | refine st (h := ok_not_dec2 rfl) ?_ | refine sd (h := ok_not_dec2 rfl) ?_ | refine st ?_ | refine st_call (HK) ?_ | refine st_call (HW) ?_ | refine sd_call (HK) ?_ | refine sd_call (HW) ?_ | refine stRW [0] HF ?_ | refine sdRW [0] HF ?_ | refine stm ?_ | refine Ja ?_ | refine Jb ?_ | refine Jc ?_ | refine Jd ?_ | refine Je ?_ | refine Jf ?_ | refine Jg ?_ | refine Jh ?_ ?_ | refine Ji ?_ ?_ | refine Jj ?_ ?_ | refine run_nil ?_ | refine sd ?_ | refine sdl ?_ | refine sdm (n := 1) ?_ | refine sdm ?_ | refine sdb ?_ | refine Jk ?_ | refine Jl ?_ | refine Jm ?_ | refine Jn ?_ ?_ | refine Jo ?_ ?_ | refine Jp ?_ ?_ | refine rund_nil ?_ | refine Jz ?_ | refine Jw ?_ | refine Jx (id := 11) [0,1,0,7,15,31,63,63,255,511,1023,2047,2047,8191,16383,32767,65535,65535,262143,524287,1048575,2097151,2097151,8388607,16777215,33554431,67108863,67108863,268435455,536870911,1073741823,2147483647,2147483647,8589934591,17179869183,34359738367] 36 ?_ | refine aw_block ?_ | refine Jq ?_ | refine Jr ?_ | refine Js ?_ | refine Jt ?_ | refine Ju ?_ ?_ | refine Jv ?_ ?_ | refine Jy ?_ | refine aw_exit ?_ | refine aw_ret ?_ | refine pp_ret ?_ | refine pp_normal ?_
    all_goals first
      | rfl
      | (exfalso; omega)
      | (simp [retOf]; done)
      | (exfalso; simp_all; done)
      | (exfalso; simp only [Bool.not_eq_true', Bool.not_eq_false', decide_eq_true_eq, decide_eq_false_iff_not, Bool.not_false, Bool.not_true] at *; omega)
  | true =>
  obtain ⟨hx1, hx2⟩ := hx rfl
  obtain ⟨n1, s1, a1, b1, c1, d1, e1, f1, g1, z1, H1, H2⟩ := pr_start nm sec
  obtain ⟨n2, s2, a2, b2, c2, d2, e2, f2, g2, z2, H3, H4⟩ := pr_hear nm sec sj pa ep nd no tr si L n hn (by omega) (fun f hf => Nat.le_trans (hx2 f hf) (by decide))
  obtain ⟨n3, s3, a3, b3, c3, d3, e3, f3, g3, z3, H5, H6⟩ := pr_wait nm sec sj pa ep nd no tr si slot w hr
  obtain ⟨c, hc⟩ : ∃ c, chJ nm sec sj pa ep nd no tr si = c := ⟨_, rfl⟩
  have H7 := ac_jCheck nm sec sj pa ep nd no tr si c hc
  have H8 := ac_rjCheck nm sec sj pa ep nd no tr si c hc
  obtain ⟨cc, hcc⟩ : ∃ cc : Int, cond c 0 1 = cc := ⟨_, rfl⟩
  rw [hcc] at H7 H8
  clear hx hx2 hc hcc
  refine acalls_law Tryz.func7 rfl rfl rfl ?_
  repeat' first | intro h1 | intro h1 | refine st (h := ok_not_dec2 rfl) ?_ | refine sd (h := ok_not_dec2 rfl) ?_ | refine st (h := ok_agg_eqlT rfl rfl (by ((repeat constructor); first | done | fail)) (by simp)) ?_ | refine sd (h := ok_agg_eqlT rfl rfl (by ((repeat constructor); first | done | fail)) (by simp)) ?_ | refine st ?_ | refine st_call (HK) ?_ | refine st_call (HW) ?_ | refine st_call (H1) ?_ | refine st_call (H2) ?_ | refine st_call (H5) ?_ | refine st_call (H6) ?_ | refine st_call (H7) ?_ | refine st_call (H8) ?_ | refine sd_call (HK) ?_ | refine sd_call (HW) ?_ | refine sd_call (H1) ?_ | refine sd_call (H2) ?_ | refine sd_call (H5) ?_ | refine sd_call (H6) ?_ | refine sd_call (H7) ?_ | refine sd_call (H8) ?_ | refine stRW [0] HF ?_ | refine stRW [0] H3 ?_ | refine stRW [0] H4 ?_ | refine sdRW [0] HF ?_ | refine sdRW [0] H3 ?_ | refine sdRW [0] H4 ?_ | refine stm ?_ | refine Ja ?_ | refine Jb ?_ | refine Jc ?_ | refine Jd ?_ | refine Je ?_ | refine Jf ?_ | refine Jg ?_ | refine Jh ?_ ?_ | refine Ji ?_ ?_ | refine Jj ?_ ?_ | refine run_nil ?_ | refine sd ?_ | refine sdl ?_ | refine sdm (n := 1) ?_ | refine sdm ?_ | refine sdb ?_ | refine Jk ?_ | refine Jl ?_ | refine Jm ?_ | refine Jn ?_ ?_ | refine Jo ?_ ?_ | refine Jp ?_ ?_ | refine rund_nil ?_ | refine Jz ?_ | refine Jw ?_ | refine Jx (id := 11) [0,1,0,7,15,31,63,63,255,511,1023,2047,2047,8191,16383,32767,65535,65535,262143,524287,1048575,2097151,2097151,8388607,16777215,33554431,67108863,67108863,268435455,536870911,1073741823,2147483647,2147483647,8589934591,17179869183,34359738367] 36 ?_ | refine aw_block ?_ | refine Jq ?_ | refine Jr ?_ | refine Js ?_ | refine Jt ?_ | refine Ju ?_ ?_ | refine Jv ?_ ?_ | refine Jy ?_ | refine aw_exit ?_ | refine aw_ret ?_ | refine pp_ret ?_ | refine pp_normal ?_
  all_goals first
    | rfl
    | (exfalso; omega)
    | (simp [retOf]; done)
    | (exfalso; simp_all; done)
    | (exfalso; simp only [Bool.not_eq_true', Bool.not_eq_false', decide_eq_true_eq, decide_eq_false_iff_not, Bool.not_false, Bool.not_true] at *; omega)
end Go.Proofs.YtdbcbclapipgdaaGreatDoor
