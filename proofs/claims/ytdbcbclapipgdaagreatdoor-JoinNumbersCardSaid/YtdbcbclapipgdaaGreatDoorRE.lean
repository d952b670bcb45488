/- JoinNumbers: a member whose name is not smaller is looked for. -/
import Derived.Test.YtdbcbclapipgdaaGreatDoorC54
set_option linter.unusedVariables false
set_option linter.unusedSimpArgs false
namespace Go.Proofs.YtdbcbclapipgdaaGreatDoor
open Go Av
set_option maxRecDepth 20000
theorem ac_nu1 (q nm sec : ByteArray) (nd no : Int) (x : Bool) (hx : (!ltS nm q) = x) : ACalls Tryz.prog 26 [.agg #[.string nm, .string sec, .int .i64 nd, .int .i64 no], .pointer (some ⟨0, 0, none⟩)] [some ⟨[.string q], false, 1⟩] (.bool x) [none] := by
  obtain ⟨z, hz⟩ : ∃ z, ltS nm q = z := ⟨_, rfl⟩
  rw [hz] at hx
  subst hx
  refine acalls_law Tryz.func26 rfl rfl rfl ?_
  repeat' first | intro h1 | refine st (h := ok_str_geq rfl rfl hz) ?_ | refine sd (h := ok_str_geq rfl rfl hz) ?_ | refine st ?_ | refine stm ?_ | refine Ja ?_ | refine Jb ?_ | refine Jc ?_ | refine Jd ?_ | refine Je ?_ | refine Jf ?_ | refine Jg ?_ | refine Jh ?_ ?_ | refine Ji ?_ ?_ | refine Jj ?_ ?_ | refine run_nil ?_ | refine Jz ?_ | refine Jw ?_ | refine aw_block ?_ | refine Jq ?_ | refine Jr ?_ | refine Js ?_ | refine Jt ?_ | refine Ju ?_ ?_ | refine Jv ?_ ?_ | refine Jy ?_ | refine aw_exit ?_ | refine aw_ret ?_ | refine pp_ret ?_ | refine pp_normal ?_
  all_goals first
    | rfl
    | (exfalso; omega)
    | (simp [retOf]; done)
    | (exfalso; simp_all; done)
    | (exfalso; simp only [Bool.not_eq_true', Bool.not_eq_false', decide_eq_true_eq, decide_eq_false_iff_not, Bool.not_false, Bool.not_true] at *; omega)
set_option maxHeartbeats 4000000 in
theorem ac_ix_nu (L : List Mb) (n : Nat) (hn : L.length = n) (hb : n ≤ 1000000) (q : ByteArray) (x : Int) (hx : fdx (fun m : Mb => !ltS m.nm q) L = x) : ACalls Tryz.prog 74 [.slice (some ⟨0, 0, none⟩) n n, .func (.func 26) #[] #[.pointer (some ⟨1, 0, none⟩)]] [some ⟨L.flatMap mbC, false, 4⟩, some ⟨[.string q], false, 1⟩] (.int .i64 x) [none, none] := by
  refine acalls_law Tryz.func74 rfl rfl rfl ?_
  repeat' first | intro h1 | refine st ?_ | refine stm ?_ | refine Ja ?_ | refine Jb ?_ | refine Jc ?_ | refine Jd ?_ | refine Je ?_ | refine Jf ?_ | refine Jg ?_ | refine Jh ?_ ?_ | refine Ji ?_ ?_ | refine Jj ?_ ?_ | refine run_nil ?_ | refine Jz ?_ | refine Jw ?_ | refine aw_block ?_ | refine Jq ?_ | refine Jr ?_ | refine Js ?_ | refine Jt ?_ | refine Ju ?_ ?_ | refine Jv ?_ ?_ | refine Jy ?_ | refine aw_exit ?_ | refine aw_ret ?_ | refine pp_ret ?_ | refine pp_normal ?_
  refine aw_loopg
    (S := fun y : Ki => [(0, .slice (some ⟨0, 0, none⟩) n n), (1, .func (.func 26) #[] #[.pointer (some ⟨1, 0, none⟩)]), (6, .slice (some ⟨0, 0, none⟩) n n), (7, .int .i64 n), (8, .int .i64 y.i)])
    (B := fun _ : Ki => [some ⟨L.flatMap mbC, false, 4⟩, some ⟨[.string q], false, 1⟩])
    (R := fun y : Ki => y.i ≤ n ∧ ∀ (j : Nat), j < y.i → ∀ m, L[j]? = some m → (fun m : Mb => !ltS m.nm q) m = false)
    (μ := fun y : Ki => n - y.i) ⟨0⟩ (fitsD [0, 1]) ⟨Nat.zero_le _, fun j hj => absurd hj (Nat.not_lt_zero _)⟩ ?_
  rintro ⟨i⟩ ⟨g1, g2⟩
  dsimp only at *
  by_cases hi : i < n
  · obtain ⟨⟨nm, sec, nd, no⟩, hq⟩ : ∃ m, L[i]? = some m := ⟨_, List.getElem?_eq_getElem (by omega)⟩
    obtain ⟨v, hv⟩ : ∃ v, (fun m : Mb => !ltS m.nm q) ⟨nm, sec, nd, no⟩ = v := ⟨_, rfl⟩
    have H := ac_nu1 q nm sec nd no v hv
    cases v with
    | true =>
      obtain rfl : x = i := by rw [← hx]; exact fdx_at (q := fun m : Mb => !ltS m.nm q) hq hv g2
      clear hx hv g2
      repeat' first | intro h1 | refine st (h := ok_load_rowsE (f := mbC) (cs := [.string nm, .string sec, .int .i64 nd, .int .i64 no]) i (fun _ => rfl) hq rfl rfl rfl rfl (by omega)) ?_ | refine st ?_ | refine stRW [1] H ?_ | refine sdRW [1] H ?_ | refine stm ?_ | refine Ja ?_ | refine Jb ?_ | refine Jc ?_ | refine Jd ?_ | refine Je ?_ | refine Jf ?_ | refine Jg ?_ | refine Jh ?_ ?_ | refine Ji ?_ ?_ | refine Jj ?_ ?_ | refine run_nil ?_ | refine Jz ?_ | refine Jw ?_ | refine aw_block ?_ | refine Jq ?_ | refine Jr ?_ | refine Js ?_ | refine Jt ?_ | refine Ju ?_ ?_ | refine Jv ?_ ?_ | refine Jy ?_ | refine aw_exit ?_ | refine aw_ret ?_ | refine pp_ret ?_ | refine pp_normal ?_
      all_goals first
        | rfl
        | (exfalso; omega)
        | (simp [retOf]; done)
        | (exfalso; simp_all; done)
        | (exfalso; simp only [Bool.not_eq_true', Bool.not_eq_false', decide_eq_true_eq, decide_eq_false_iff_not, Bool.not_false, Bool.not_true] at *; omega)
    | false =>
      have hst := fdx_step (q := fun m : Mb => !ltS m.nm q) g2 hq hv
      clear hx hv g2
      repeat' first | intro h1 | refine st (h := ok_load_rowsE (f := mbC) (cs := [.string nm, .string sec, .int .i64 nd, .int .i64 no]) i (fun _ => rfl) hq rfl rfl rfl rfl (by omega)) ?_ | refine st ?_ | refine stRW [1] H ?_ | refine sdRW [1] H ?_ | refine stm ?_ | refine Ja ?_ | refine Jb ?_ | refine Jc ?_ | refine Jd ?_ | refine Je ?_ | refine Jf ?_ | refine Jg ?_ | refine Jh ?_ ?_ | refine Ji ?_ ?_ | refine Jj ?_ ?_ | refine run_nil ?_ | refine Jz ?_ | refine Jw ?_ | refine aw_block ?_ | refine Jq ?_ | refine Jr ?_ | refine Js ?_ | refine Jt ?_ | refine Ju ?_ ?_ | refine Jv ?_ ?_ | refine Jy ?_ | refine aw_exit ?_ | refine aw_ret ?_ | refine pp_ret ?_ | refine pp_normal ?_
      all_goals first | exact Exists.intro ⟨i + 1⟩ ⟨fitsD [0, 1], ⟨hi, hst⟩, by dsimp only; omega⟩ | (exfalso; omega)
  · obtain rfl : i = n := by omega
    obtain rfl : x = -1 := by rw [← hx]; exact fdx_no (by rw [hn]; exact g2)
    clear hx g2
    repeat' first | intro h1 | refine st ?_ | refine stm ?_ | refine Ja ?_ | refine Jb ?_ | refine Jc ?_ | refine Jd ?_ | refine Je ?_ | refine Jf ?_ | refine Jg ?_ | refine Jh ?_ ?_ | refine Ji ?_ ?_ | refine Jj ?_ ?_ | refine run_nil ?_ | refine Jz ?_ | refine Jw ?_ | refine aw_block ?_ | refine Jq ?_ | refine Jr ?_ | refine Js ?_ | refine Jt ?_ | refine Ju ?_ ?_ | refine Jv ?_ ?_ | refine Jy ?_ | refine aw_exit ?_ | refine aw_ret ?_ | refine pp_ret ?_ | refine pp_normal ?_
    all_goals first
      | rfl
      | (exfalso; omega)
      | (simp [retOf]; done)
      | (exfalso; simp_all; done)
      | (exfalso; simp only [Bool.not_eq_true', Bool.not_eq_false', decide_eq_true_eq, decide_eq_false_iff_not, Bool.not_false, Bool.not_true] at *; omega)
set_option maxHeartbeats 4000000 in
theorem ac_cn_nu (L : List Mb) (n : Nat) (hn : L.length = n) (hb : n ≤ 1000000) (q : ByteArray) (x : Bool) (hx : decide (0 ≤ fdx (fun m : Mb => !ltS m.nm q) L) = x) : ACalls Tryz.prog 25 [.slice (some ⟨0, 0, none⟩) n n, .func (.func 26) #[] #[.pointer (some ⟨1, 0, none⟩)]] [some ⟨L.flatMap mbC, false, 4⟩, some ⟨[.string q], false, 1⟩] (.bool x) [none, none] := by
  obtain ⟨z, hz⟩ : ∃ z, fdx (fun m : Mb => !ltS m.nm q) L = z := ⟨_, rfl⟩
  have H := ac_ix_nu L n hn hb q z hz
  rw [hz] at hx
  clear hz
  refine acalls_law Tryz.func25 rfl rfl rfl ?_
  repeat' first | intro h1 | refine st ?_ | refine stRW [0, 1] H ?_ | refine sdRW [0, 1] H ?_ | refine stm ?_ | refine Ja ?_ | refine Jb ?_ | refine Jc ?_ | refine Jd ?_ | refine Je ?_ | refine Jf ?_ | refine Jg ?_ | refine Jh ?_ ?_ | refine Ji ?_ ?_ | refine Jj ?_ ?_ | refine run_nil ?_ | refine Jz ?_ | refine Jw ?_ | refine aw_block ?_ | refine Jq ?_ | refine Jr ?_ | refine Js ?_ | refine Jt ?_ | refine Ju ?_ ?_ | refine Jv ?_ ?_ | refine Jy ?_ | refine aw_exit ?_ | refine aw_ret ?_ | refine pp_ret ?_ | refine pp_normal ?_
  all_goals first
    | rfl
    | (exfalso; omega)
    | (rw [← hx]; refine congrArg Value.bool ?_; first | exact (decide_eq_true (by omega)).symm | exact (decide_eq_false (by omega)).symm | exact decide_eq_decide.2 (by omega))
    | (rw [← hx]; show Value.bool _ = Value.bool _; congr 1; first | exact (decide_eq_true (by omega)).symm | exact (decide_eq_false (by omega)).symm | exact decide_eq_decide.2 (by omega) | (rw [← decide_not]; exact decide_eq_decide.2 (by omega)))
    | (exfalso; simp only [Bool.not_eq_true', Bool.not_eq_false', decide_eq_true_eq, decide_eq_false_iff_not, Bool.not_false, Bool.not_true] at *; omega)
    | (simp [retOf]; done)
    | (exfalso; simp_all; done)
end Go.Proofs.YtdbcbclapipgdaaGreatDoor
