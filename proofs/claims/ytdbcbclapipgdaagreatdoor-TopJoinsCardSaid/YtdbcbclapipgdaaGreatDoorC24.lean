/- Join: Hear; Join: members compared and few. -/
import Derived.Test.YtdbcbclapipgdaaGreatDoorVO
import Derived.Test.YtdbcbclapipgdaaGreatDoorJ
import Derived.Test.YtdbcbclapipgdaaGreatDoorC18
import Derived.Test.YtdbcbclapipgdaaGreatDoorC20
import Derived.Test.YtdbcbclapipgdaaGreatDoorC23
set_option linter.unusedVariables false
set_option linter.unusedSimpArgs false
namespace Go.Proofs.YtdbcbclapipgdaaGreatDoor
open Go Av
set_option maxRecDepth 20000
set_option maxHeartbeats 16000000 in
theorem ac_jHear (nm sec : ByteArray) (sj pa ep nd no tr si : Int) (L : List Fm) (n : Nat) (hn : L.length = n) (hnb : n ≤ 1000000) (hd : ∀ f ∈ L, f.dt.size ≤ 1000) (e : Int) (he : (if chJ nm sec sj pa ep nd no tr si = false then 1 else if sj ≠ 0 then 12 else if hrB L n < 0 then 14 else 0) = e) (fs fe : Int) (hf : ∀ f, L[(hrB L n).toNat]? = some f → f.sr = fs ∧ f.ep = fe) : ACalls Tryz.prog 33 [.agg #[.string nm, .string sec, .int .i64 sj, .int .i64 pa, .int .i64 ep, .int .i64 nd, .int .i64 no, .int .i64 tr, .int .i64 si], .slice (some ⟨0, 0, none⟩) n n] [some ⟨L.flatMap fmC, false, 12⟩] (.tuple #[if e = 0 then .agg #[.string nm, .string sec, .int .i64 1, .int .i64 fs, .int .i64 fe, .int .i64 nd, .int .i64 no, .int .i64 tr, .int .i64 si] else .agg #[.string ⟨#[]⟩, .string ⟨#[]⟩, .int .i64 0, .int .i64 0, .int .i64 0, .int .i64 0, .int .i64 0, .int .i64 0, .int .i64 0], .int .i64 e]) [none] := by
  obtain ⟨x, hx⟩ : ∃ x, chJ nm sec sj pa ep nd no tr si = x := ⟨_, rfl⟩
  obtain ⟨y, hy⟩ : ∃ y, decide (sj = 0) = y := ⟨_, rfl⟩
  have HC := ac_jin nm sec sj pa ep nd no tr si 0 x y hx hy
  rw [hx] at he
  clear hx
  cases x
  · rw [if_pos rfl] at he
    subst he
    rw [if_neg (by decide)]
    clear hf hd
    cases y
    · have hy := of_decide_eq_false hy
      refine acalls_law Tryz.func33 rfl rfl rfl ?_
      repeat' first | refine st ?_ | refine st_call (HC) ?_ | refine stm ?_ | refine run_nil ?_ | refine Jz ?_ | refine Jw ?_ | refine Jq ?_ | refine aw_ret ?_ | refine pp_ret ?_
      all_goals first
        | rfl
        | (exfalso; omega)
        | (simp [retOf]; done)
        | (exfalso; simp_all; done)
        | (exfalso; simp only [Bool.not_eq_true', Bool.not_eq_false', decide_eq_true_eq, decide_eq_false_iff_not, Bool.not_false, Bool.not_true] at *; omega)
    · have hy := of_decide_eq_true hy
      refine acalls_law Tryz.func33 rfl rfl rfl ?_
      repeat' first | refine st ?_ | refine st_call (HC) ?_ | refine stm ?_ | refine run_nil ?_ | refine Jz ?_ | refine Jw ?_ | refine Jq ?_ | refine aw_ret ?_ | refine pp_ret ?_
      all_goals first
        | rfl
        | (exfalso; omega)
        | (simp [retOf]; done)
        | (exfalso; simp_all; done)
        | (exfalso; simp only [Bool.not_eq_true', Bool.not_eq_false', decide_eq_true_eq, decide_eq_false_iff_not, Bool.not_false, Bool.not_true] at *; omega)
  rw [if_neg (by decide)] at he
  cases y
  · have hy := of_decide_eq_false hy
    rw [if_pos hy] at he
    subst he
    rw [if_neg (by decide)]
    clear hf hd
    refine acalls_law Tryz.func33 rfl rfl rfl ?_
    repeat' first | refine st ?_ | refine st_call (HC) ?_ | refine stm ?_ | refine run_nil ?_ | refine Jz ?_ | refine Jw ?_ | refine Jq ?_ | refine aw_ret ?_ | refine pp_ret ?_
    all_goals first
      | rfl
      | (exfalso; omega)
      | (simp [retOf]; done)
      | (exfalso; simp_all; done)
      | (exfalso; simp only [Bool.not_eq_true', Bool.not_eq_false', decide_eq_true_eq, decide_eq_false_iff_not, Bool.not_false, Bool.not_true] at *; omega)
  have hy := of_decide_eq_true hy
  rw [if_neg (by omega)] at he
  refine acalls_law Tryz.func33 rfl rfl (by split <;> rfl) ?_
  repeat' first | refine st ?_ | refine st_call (HC) ?_ | refine stm ?_ | refine run_nil ?_ | refine Jz ?_ | refine Jw ?_ | refine aw_block ?_ | refine Jr ?_ | refine Jy ?_
  all_goals try (exfalso; omega)
  clear HC
  refine aw_loopg
    (S := fun y : Hq => [(1, .slice (some ⟨0, 0, none⟩) n n), (2, .pointer (some ⟨1, 0, none⟩)), (4, .pointer (some ⟨2, 0, none⟩)), (7, .int .i64 (hrB L y.i)), (18, .slice (some ⟨0, 0, none⟩) n n), (19, .int .i64 n), (20, .int .i64 y.i)])
    (B := fun _ : Hq => [some ⟨L.flatMap fmC, false, 12⟩, some ⟨[.string nm, .string sec, .int .i64 sj, .int .i64 pa, .int .i64 ep, .int .i64 nd, .int .i64 no, .int .i64 tr, .int .i64 si], true, 1⟩, some ⟨[.string ⟨#[]⟩, .string ⟨#[]⟩, .int .i64 0, .int .i64 0, .int .i64 0, .int .i64 0, .int .i64 0, .int .i64 0, .int .i64 0], true, 1⟩])
    (R := fun y : Hq => y.i ≤ n)
    (μ := fun y : Hq => n - y.i) ⟨0⟩ (fitsD [0, 1, 2]) (Nat.zero_le _) ?_
  rintro ⟨i⟩ g1
  dsimp only at g1 ⊢
  have hbd := hrB_bd L i
  by_cases hi : i < n
  · obtain ⟨f, hq⟩ : ∃ f, L[i]? = some f := ⟨_, List.getElem?_eq_getElem (by omega)⟩
    have hds := hd f (List.mem_of_getElem? hq)
    clear hf he hd
    obtain ⟨kd, sr, tg, li, sq, fl, nu, er, sx, rk, eo, dt⟩ := f
    dsimp only at hds
    obtain ⟨⟨m1, op, m3, m4, m5, m6, m7⟩, z, hres⟩ : ∃ m z, readO (isC kd sr tg li sq fl nu er sx rk eo) dt = (m, z) := ⟨_, _, rfl⟩
    have hop : opF ⟨kd, sr, tg, li, sq, fl, nu, er, sx, rk, eo, dt⟩ = (decide (z = 0) && op) := by
      unfold opF isF
      dsimp only
      rw [hres]
    by_cases hz : z = 0
    · rw [decide_eq_true hz, Bool.true_and] at hop
      cases op with
      | false => exact j_no0 nm sec sj pa ep nd no tr si L n i hn hnb hi kd sr tg li sq fl nu er sx rk eo dt hq hds m1 false m3 m4 m5 m6 m7 z hres (hrB_no hq hop) hz
      | true =>
        by_cases hb0 : hrB L i < 0
        · exact j_fst nm sec sj pa ep nd no tr si L n i hn hnb hi kd sr tg li sq fl nu er sx rk eo dt hq hds m1 false m3 m4 m5 m6 m7 z hres (hrB_first hq hop hb0) hz hb0
        · obtain ⟨b, hb⟩ : ∃ b : Nat, hrB L i = b := ⟨(hrB L i).toNat, by omega⟩
          obtain ⟨⟨kd', sr', tg', li', sq', fl', nu', er', sx', rk', eo', dt'⟩, hg⟩ : ∃ g, L[b]? = some g := ⟨_, List.getElem?_eq_getElem (by omega)⟩
          have hnx := hrB_bt hq hop hb hg
          unfold btF isF at hnx
          dsimp only at hnx
          cases hv : betC (isC kd sr tg li sq fl nu er sx rk eo) (isC kd' sr' tg' li' sq' fl' nu' er' sx' rk' eo') eo rk sr eo' rk' sr' with
          | false =>
            rw [hv, if_neg (by decide)] at hnx
            exact j_bt0 nm sec sj pa ep nd no tr si L n i hn hnb hi kd sr tg li sq fl nu er sx rk eo dt hq hds m1 false m3 m4 m5 m6 m7 z hres b hb kd' sr' tg' li' sq' fl' nu' er' sx' rk' eo' dt' hg hnx hz hv
          | true =>
            rw [hv, if_pos rfl] at hnx
            exact j_bt1 nm sec sj pa ep nd no tr si L n i hn hnb hi kd sr tg li sq fl nu er sx rk eo dt hq hds m1 false m3 m4 m5 m6 m7 z hres b hb kd' sr' tg' li' sq' fl' nu' er' sx' rk' eo' dt' hg hnx hz hv
    · rw [decide_eq_false hz, Bool.false_and] at hop
      exact j_no1 nm sec sj pa ep nd no tr si L n i hn hnb hi kd sr tg li sq fl nu er sx rk eo dt hq hds m1 op m3 m4 m5 m6 m7 z hres (hrB_no hq hop) hz
  · obtain rfl : i = n := by omega
    by_cases hb0 : hrB L i < 0
    · rw [if_pos hb0] at he
      subst he
      rw [if_neg (by decide)]
      obtain ⟨B, hB⟩ : ∃ B, hrB L i = B := ⟨_, rfl⟩
      rw [hB] at hb0 ⊢
      clear hf hd
      repeat' first | refine st ?_ | refine stm ?_ | refine run_nil ?_ | refine Jz ?_ | refine Jw ?_ | refine Js ?_ | refine Jt ?_ | refine aw_exit ?_ | refine aw_ret ?_ | refine pp_ret ?_
      all_goals first
        | rfl
        | (exfalso; omega)
        | (simp [retOf]; done)
        | (exfalso; simp_all; done)
        | (exfalso; simp only [Bool.not_eq_true', Bool.not_eq_false', decide_eq_true_eq, decide_eq_false_iff_not, Bool.not_false, Bool.not_true] at *; omega)
    · rw [if_neg hb0] at he
      subst he
      rw [if_pos rfl]
      obtain ⟨b, hb⟩ : ∃ b : Nat, hrB L i = b := ⟨(hrB L i).toNat, by omega⟩
      obtain ⟨f, hq⟩ : ∃ f, L[b]? = some f := ⟨_, List.getElem?_eq_getElem (by omega)⟩
      obtain ⟨e1, e2⟩ := hf f (by rw [hb, Int.toNat_natCast]; exact hq)
      rw [hb] at hb0 ⊢
      clear hf hd
      subst e1 e2
      obtain ⟨kd, sr, tg, li, sq, fl, nu, er, sx, rk, eo, dt⟩ := f
      dsimp only
      repeat' first | refine Rol.aw_region_q (id := 14) [0, 0, 3, 7, 15, 0, 0, 96, 224, 480, 0, 1024, 3103, 7199, 16383, 32767] [4, 9] [some ⟨L.flatMap fmC, false, 12⟩, none, none] (by kernel_rfl) (by kernel_rfl) (by kernel_rfl) (by rfl) (by (repeat (first | exact Rol.LowR.nil | refine Rol.LowR.keep rfl ?_ | refine Rol.LowR.none ?_))) ?_ | refine Rol.qp (v := .int .i64 sr) (h := ok_load_rowcellE (f := fmC) (n := 12) b 1 (fun _ => rfl) hq rfl (by omega) rfl rfl rfl (by omega)) ?_ | refine Rol.qp (v := .int .i64 eo) (h := ok_load_rowcellE (f := fmC) (n := 12) b 10 (fun _ => rfl) hq rfl (by omega) rfl rfl rfl (by omega)) ?_ | refine Rol.qp (by first | (apply ok_move; rfl) | (apply ok_fieldAddr; rfl; rfl; infer_instance; rfl) | (apply ok_indexAddr_slice; rfl; rfl; omega)) ?_ | refine Rol.qs (by (apply ok_storeN; rfl; rfl; (focus first | ((repeat constructor); first | done | fail) | exact ListR.refl _); rfl; rfl; rfl; rfl; (focus ((repeat constructor); first | done | fail)); (focus ((repeat constructor); first | done | fail)); rfl)) ?_ | refine Rol.qnil ?_ | refine st ?_ | refine stm ?_ | refine run_nil ?_ | refine Jz ?_ | refine Jw ?_ | refine Jr ?_ | refine Jt ?_ | refine Jy ?_ | refine aw_exit ?_ | refine aw_ret ?_ | refine pp_ret ?_
      all_goals first
        | rfl
        | (exfalso; omega)
        | (simp [retOf]; done)
        | (exfalso; simp_all; done)
        | (exfalso; simp only [Bool.not_eq_true', Bool.not_eq_false', decide_eq_true_eq, decide_eq_false_iff_not, Bool.not_false, Bool.not_true] at *; omega)
set_option maxHeartbeats 4000000 in
theorem ac_same (L : List Mb) (n : Nat) (hn : L.length = n) (hb : n ≤ 1000000) : ACalls Tryz.prog 23 [.slice (some ⟨0, 0, none⟩) n n, .slice (some ⟨1, 0, none⟩) n n] [some ⟨L.flatMap mbC, false, 4⟩, some ⟨L.flatMap mbC, false, 4⟩] (.bool true) [none, none] := by
  refine acalls_law Tryz.func23 rfl rfl rfl ?_
  repeat' first | refine st ?_ | refine run_nil ?_ | refine Jz ?_ | refine Jw ?_ | refine aw_block ?_ | refine Jt ?_ | refine Jy ?_
  refine aw_loopg
    (S := fun y : Ki => [(0, .slice (some ⟨0, 0, none⟩) n n), (1, .slice (some ⟨1, 0, none⟩) n n), (5, .int .i64 y.i)])
    (B := fun _ : Ki => [some ⟨L.flatMap mbC, false, 4⟩, some ⟨L.flatMap mbC, false, 4⟩])
    (R := fun y : Ki => y.i ≤ n)
    (μ := fun y : Ki => n - y.i) ⟨0⟩ (fitsD [0, 1]) (Nat.zero_le _) ?_
  rintro ⟨i⟩ g1
  dsimp only at g1 ⊢
  by_cases hi : i < n
  · obtain ⟨⟨nm, sec, nd, no⟩, hq⟩ : ∃ m, L[i]? = some m := ⟨_, List.getElem?_eq_getElem (by omega)⟩
    repeat' first | intro h1 | intro h1 | refine sdl (h := ok_load_rowsE (f := mbC) (cs := [.string nm, .string sec, .int .i64 nd, .int .i64 no]) i (fun _ => rfl) hq rfl rfl rfl rfl (by omega)) ?_ | refine st ?_ | refine run_nil ?_ | refine sd ?_ | refine rund_nil ?_ | refine Jz ?_ | refine Jw ?_ | refine Jx (id := 6) [0,0,3,7,0,0,48,112,255] 9 ?_ | refine aw_block ?_ | refine Js ?_ | refine Ju ?_ ?_ | refine Jy ?_ | refine aw_ret ?_ | refine pp_ret ?_
    all_goals first | exact Exists.intro ⟨i + 1⟩ ⟨fitsD [0, 1], hi, by dsimp only; omega⟩ | exact absurd ⟨rfl, rfl, rfl, rfl, trivial⟩ h1
  · obtain rfl : i = n := by omega
    repeat' first | refine st ?_ | refine run_nil ?_ | refine Jz ?_ | refine Jw ?_ | refine Jt ?_ | refine aw_exit ?_ | refine aw_ret ?_ | refine pp_ret ?_
    all_goals first
      | rfl
      | (exfalso; omega)
      | (simp [retOf]; done)
      | (exfalso; simp_all; done)
      | (exfalso; simp only [Bool.not_eq_true', Bool.not_eq_false', decide_eq_true_eq, decide_eq_false_iff_not, Bool.not_false, Bool.not_true] at *; omega)
end Go.Proofs.YtdbcbclapipgdaaGreatDoor
