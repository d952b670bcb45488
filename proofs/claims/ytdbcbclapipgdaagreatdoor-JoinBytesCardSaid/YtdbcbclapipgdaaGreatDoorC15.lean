/- Bits: the reader's end, the reference's reader; Offers: hopping lists are read; Join: requests and answers checked, the states of joiners. -/
import Derived.Test.YtdbcbclapipgdaaGreatDoorVO
import Derived.Test.YtdbcbclapipgdaaGreatDoorJ
import Derived.Test.YtdbcbclapipgdaaGreatDoorC14
import Derived.Test.YtdbcbclapipgdaaGreatDoorC26
set_option linter.unusedVariables false
set_option linter.unusedSimpArgs false
namespace Go.Proofs.YtdbcbclapipgdaaGreatDoor
open Go Av
set_option maxRecDepth 20000
set_option maxHeartbeats 1000000 in
theorem ac_rcloseR (e c : Int) (a : Nat) (d d2 : ByteArray) (a2 : Int) (hst : closeR d a e = c) (hr : RR d a e d2 a2) (ha : a ≤ 8 * d.size) (hd : d.size ≤ 1000000) : ACalls Tryz.prog 138 [.pointer (some ⟨0, 0, none⟩)] [some ⟨[.string d2, .int .i64 a2, .int .i64 e], false, 1⟩] (.int .i64 c) [none] := by
  unfold closeR at hst
  by_cases he : e = 0
  · subst he
    rw [if_neg (by simp)] at hst
    obtain ⟨rfl, rfl⟩ := hr.1 rfl
    have HL := ac_rrleft a 0 d2 (by omega) hd
    by_cases h8 : 8 ≤ 8 * d2.size - a
    · rw [if_pos (.inl h8)] at hst
      subst hst
      refine acalls_law Tryz.func138 rfl rfl rfl ?_
      repeat' first | intro h1 | refine st ?_ | refine stRW [0] HL ?_ | refine stm ?_ | refine Ja ?_ | refine Jb ?_ | refine Jc ?_ | refine Jd ?_ | refine Je ?_ | refine Jf ?_ | refine Jg ?_ | refine Jh ?_ ?_ | refine Ji ?_ ?_ | refine Jj ?_ ?_ | refine run_nil ?_ | refine Jz ?_ | refine Jw ?_ | refine aw_block ?_ | refine Jq ?_ | refine Jr ?_ | refine Js ?_ | refine Jt ?_ | refine Ju ?_ ?_ | refine Jv ?_ ?_ | refine Jy ?_ | refine aw_exit ?_ | refine aw_ret ?_ | refine pp_ret ?_ | refine pp_normal ?_
      all_goals first | rfl | (exfalso; omega)
    · refine acalls_law Tryz.func138 rfl rfl rfl ?_
      repeat' first | intro h1 | refine st ?_ | refine stRW [0] HL ?_ | refine stm ?_ | refine Ja ?_ | refine Jb ?_ | refine Jc ?_ | refine Jd ?_ | refine Je ?_ | refine Jf ?_ | refine Jg ?_ | refine Jh ?_ ?_ | refine Ji ?_ ?_ | refine Jj ?_ ?_ | refine run_nil ?_ | refine Jz ?_ | refine Jw ?_ | refine aw_block ?_ | refine Jq ?_ | refine Jr ?_ | refine Js ?_ | refine Jt ?_ | refine Ju ?_ ?_ | refine Jv ?_ ?_ | refine Jy ?_ | refine aw_exit ?_ | refine aw_ret ?_ | refine pp_ret ?_ | refine pp_normal ?_
      refine aw_loopg
        (S := fun y : Zg => [(0, .pointer (some ⟨0, 0, none⟩)), (3, .int .i64 ((a + y.i : Nat) : Int))])
        (B := fun y : Zg => [some ⟨[.string d2, .int .i64 (a : Int), .int .i64 0], false, 1⟩])
        (R := fun y : Zg => a + y.i ≤ 8 * d2.size ∧ ∀ j, j < y.i → bitD d2 (a + j) = 0)
        (μ := fun y : Zg => 8 * d2.size - y.i) ⟨0⟩ (fitsD [0]) ⟨ha, fun j hj => absurd hj (Nat.not_lt_zero j)⟩ ?_
      rintro ⟨i⟩ ⟨g1, g2⟩
      dsimp only at *
      by_cases hi : a + i < 8 * d2.size
      · have e1 : min (7 - ((a + i : Nat) : Int) % 8).toNat IntKind.i64.bits = 7 - (a + i) % 8 := by show min (7 - ((a + i : Nat) : Int) % 8).toNat 64 = _; omega
        have e2 : (((a + i : Nat) : Int) / 8).toNat = (a + i) / 8 := by omega
        have e3 := bv_and1 .i64 (.inr rfl) (((byteAt d2 (((a + i : Nat) : Int) / 8).toNat).toNat : Int) / 2 ^ (min (7 - ((a + i : Nat) : Int) % 8).toNat IntKind.i64.bits))
        rw [e1, e2] at e3
        have hbd := bitD_bd d2 (a + i)
        rw [← bitD, ← e1, ← e2] at e3
        by_cases hb : bitD d2 (a + i) = 0
        · rw [hb] at e3
          repeat' first | intro h1 | refine st (h := ok_conv_u8 rfl (by decide)) ?_ | refine st ?_ | refine stm ?_ | refine Ja ?_ | refine Jb ?_ | refine Jc ?_ | refine Jd ?_ | refine Je ?_ | refine Jf ?_ | refine Jg ?_ | refine Jh ?_ ?_ | refine Ji ?_ ?_ | refine Jj ?_ ?_ | refine run_nil ?_ | refine Jz ?_ | refine Jw ?_ | refine aw_block ?_ | refine Jq ?_ | refine Jr ?_ | refine Js ?_ | refine Jt ?_ | refine Ju ?_ ?_ | refine Jv ?_ ?_ | refine Jy ?_ | refine aw_exit ?_ | refine aw_ret ?_ | refine pp_ret ?_ | refine pp_normal ?_
          refine Exists.intro ⟨i + 1⟩ ⟨fitsD [0], ⟨by dsimp only; omega, fun j hj => ?_⟩, by dsimp only; omega⟩
          rcases Nat.lt_or_ge j i with h' | h'
          · exact g2 j h'
          · obtain rfl : j = i := by dsimp only at hj; omega
            exact hb
        · rw [show bitD d2 (a + i) = 1 by omega] at e3
          rw [if_pos (.inr (rdN_one d2 a i hb _ (by omega)))] at hst
          subst hst
          repeat' first | intro h1 | refine st (h := ok_conv_u8 rfl (by decide)) ?_ | refine st ?_ | refine stm ?_ | refine Ja ?_ | refine Jb ?_ | refine Jc ?_ | refine Jd ?_ | refine Je ?_ | refine Jf ?_ | refine Jg ?_ | refine Jh ?_ ?_ | refine Ji ?_ ?_ | refine Jj ?_ ?_ | refine run_nil ?_ | refine Jz ?_ | refine Jw ?_ | refine aw_block ?_ | refine Jq ?_ | refine Jr ?_ | refine Js ?_ | refine Jt ?_ | refine Ju ?_ ?_ | refine Jv ?_ ?_ | refine Jy ?_ | refine aw_exit ?_ | refine aw_ret ?_ | refine pp_ret ?_ | refine pp_normal ?_
          all_goals first | rfl | (exfalso; omega)
      · rw [if_neg (by rintro (h | h); exact h8 h; exact h (rdN_zero d2 a _ fun j hj => g2 j (by omega)))] at hst
        subst hst
        repeat' first | intro h1 | refine st ?_ | refine stm ?_ | refine Ja ?_ | refine Jb ?_ | refine Jc ?_ | refine Jd ?_ | refine Je ?_ | refine Jf ?_ | refine Jg ?_ | refine Jh ?_ ?_ | refine Ji ?_ ?_ | refine Jj ?_ ?_ | refine run_nil ?_ | refine Jz ?_ | refine Jw ?_ | refine aw_block ?_ | refine Jq ?_ | refine Jr ?_ | refine Js ?_ | refine Jt ?_ | refine Ju ?_ ?_ | refine Jv ?_ ?_ | refine Jy ?_ | refine aw_exit ?_ | refine aw_ret ?_ | refine pp_ret ?_ | refine pp_normal ?_
        all_goals first | rfl | (exfalso; omega)
  · rw [if_pos he] at hst
    subst hst
    obtain ⟨rfl, rfl⟩ := hr.2 he
    refine acalls_law Tryz.func138 rfl rfl rfl ?_
    repeat' first | intro h1 | refine st ?_ | refine stm ?_ | refine Ja ?_ | refine Jb ?_ | refine Jc ?_ | refine Jd ?_ | refine Je ?_ | refine Jf ?_ | refine Jg ?_ | refine Jh ?_ ?_ | refine Ji ?_ ?_ | refine Jj ?_ ?_ | refine run_nil ?_ | refine Jz ?_ | refine Jw ?_ | refine aw_block ?_ | refine Jq ?_ | refine Jr ?_ | refine Js ?_ | refine Jt ?_ | refine Ju ?_ ?_ | refine Jv ?_ ?_ | refine Jy ?_ | refine aw_exit ?_ | refine aw_ret ?_ | refine pp_ret ?_ | refine pp_normal ?_
    all_goals first | rfl | (exfalso; omega)
theorem rr_ex2 (d : ByteArray) (a : Nat) (e : Int) : ∃ d2 a2, RR d a e d2 a2 := by
  by_cases he : e = 0
  · exact ⟨d, a, fun _ => ⟨rfl, rfl⟩, fun h => absurd he h⟩
  · exact ⟨⟨#[]⟩, 0, fun h => absurd h he, fun _ => ⟨rfl, rfl⟩⟩
set_option maxHeartbeats 1000000 in
theorem ac_AnswerForm (nm : ByteArray) (no nd : Int) (cd : ByteArray) (x : Bool) (hx : anB nm no nd cd = x) : ACalls Tryz.prog 61 [.agg #[.string nm, .int .i64 no, .int .i64 nd, .string cd]] [] (.bool x) [] := by
  unfold anB at hx
  obtain ⟨a, ha⟩ : ∃ a, akB nm no cd = a := ⟨_, rfl⟩
  have H := ac_AskForm nm no cd a ha
  have HW := ac_member nd
  rw [ha] at hx
  clear ha
  cases a
  · rw [Bool.false_and] at hx
    subst hx
    refine acalls_law Tryz.func61 rfl rfl rfl ?_
    repeat' first | intro h1 | intro h1 | refine st ?_ | refine st_call (H) ?_ | refine st_call (HW) ?_ | refine sd_call (H) ?_ | refine sd_call (HW) ?_ | refine stm ?_ | refine Ja ?_ | refine Jb ?_ | refine Jc ?_ | refine Jd ?_ | refine Je ?_ | refine Jf ?_ | refine Jg ?_ | refine Jh ?_ ?_ | refine Ji ?_ ?_ | refine Jj ?_ ?_ | refine run_nil ?_ | refine Jz ?_ | refine Jw ?_ | refine aw_block ?_ | refine Jq ?_ | refine Jr ?_ | refine Js ?_ | refine Jt ?_ | refine Ju ?_ ?_ | refine Jv ?_ ?_ | refine Jy ?_ | refine aw_exit ?_ | refine aw_ret ?_ | refine pp_ret ?_ | refine pp_normal ?_
    all_goals first
      | rfl
      | (exfalso; omega)
      | (rw [← hx]; refine congrArg Value.bool ?_; first | exact (decide_eq_true (by omega)).symm | exact (decide_eq_false (by omega)).symm | exact decide_eq_decide.2 (by omega))
      | (rw [← hx]; show Value.bool _ = Value.bool _; congr 1; first | exact (decide_eq_true (by omega)).symm | exact (decide_eq_false (by omega)).symm | exact decide_eq_decide.2 (by omega) | (rw [← decide_not]; exact decide_eq_decide.2 (by omega)))
      | (exfalso; simp only [Bool.not_eq_true', Bool.not_eq_false', decide_eq_true_eq, decide_eq_false_iff_not, Bool.not_false, Bool.not_true] at *; omega)
      | (simp [retOf]; done)
      | (exfalso; simp_all; done)
  · rw [Bool.true_and] at hx
    rw [hx] at HW
    refine acalls_law Tryz.func61 rfl rfl rfl ?_
    repeat' first | intro h1 | intro h1 | refine st ?_ | refine st_call (H) ?_ | refine st_call (HW) ?_ | refine sd_call (H) ?_ | refine sd_call (HW) ?_ | refine stm ?_ | refine Ja ?_ | refine Jb ?_ | refine Jc ?_ | refine Jd ?_ | refine Je ?_ | refine Jf ?_ | refine Jg ?_ | refine Jh ?_ ?_ | refine Ji ?_ ?_ | refine Jj ?_ ?_ | refine run_nil ?_ | refine Jz ?_ | refine Jw ?_ | refine aw_block ?_ | refine Jq ?_ | refine Jr ?_ | refine Js ?_ | refine Jt ?_ | refine Ju ?_ ?_ | refine Jv ?_ ?_ | refine Jy ?_ | refine aw_exit ?_ | refine aw_ret ?_ | refine pp_ret ?_ | refine pp_normal ?_
    all_goals first
      | rfl
      | (exfalso; omega)
      | (rw [← hx]; refine congrArg Value.bool ?_; first | exact (decide_eq_true (by omega)).symm | exact (decide_eq_false (by omega)).symm | exact decide_eq_decide.2 (by omega))
      | (rw [← hx]; show Value.bool _ = Value.bool _; congr 1; first | exact (decide_eq_true (by omega)).symm | exact (decide_eq_false (by omega)).symm | exact decide_eq_decide.2 (by omega) | (rw [← decide_not]; exact decide_eq_decide.2 (by omega)))
      | (exfalso; simp only [Bool.not_eq_true', Bool.not_eq_false', decide_eq_true_eq, decide_eq_false_iff_not, Bool.not_false, Bool.not_true] at *; omega)
      | (simp [retOf]; done)
      | (exfalso; simp_all; done)
end Go.Proofs.YtdbcbclapipgdaaGreatDoor
