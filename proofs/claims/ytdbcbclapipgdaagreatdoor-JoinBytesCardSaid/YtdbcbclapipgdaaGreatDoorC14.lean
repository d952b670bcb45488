/- Bits: the reader's end, the reference's reader. -/
import Derived.Test.YtdbcbclapipgdaaGreatDoorVO
import Derived.Test.YtdbcbclapipgdaaGreatDoorJ
import Derived.Test.YtdbcbclapipgdaaGreatDoorC12
set_option linter.unusedVariables false
set_option linter.unusedSimpArgs false
namespace Go.Proofs.YtdbcbclapipgdaaGreatDoor
open Go Av
set_option maxRecDepth 20000
/-- The reference's reader has nothing left behind an error. -/
def RR (d : ByteArray) (a : Nat) (e : Int) (d2 : ByteArray) (a2 : Int) : Prop := (e = 0 → d2 = d ∧ a2 = a) ∧ (e ≠ 0 → d2 = ⟨#[]⟩ ∧ a2 = 0)
theorem ac_rrfail (a e c : Int) (d : ByteArray) : ACalls Tryz.prog 177 [.pointer (some ⟨0, 0, none⟩), .int .i64 c] [some ⟨[.string d, .int .i64 a, .int .i64 e], true, 1⟩] (.tuple #[]) [some ⟨[.string ⟨#[]⟩, .int .i64 0, .int .i64 c], true, 1⟩] := by
  refine acalls_of_aw Tryz.func177 rfl rfl ?_
  repeat' first | intro h1 | refine st ?_ | refine stm ?_ | refine Ja ?_ | refine Jb ?_ | refine Jc ?_ | refine Jd ?_ | refine Je ?_ | refine Jf ?_ | refine Jg ?_ | refine Jh ?_ ?_ | refine Ji ?_ ?_ | refine Jj ?_ ?_ | refine run_nil ?_ | refine Jz ?_ | refine Jw ?_ | refine aw_block ?_ | refine Jq ?_ | refine Jr ?_ | refine Js ?_ | refine Jt ?_ | refine Ju ?_ ?_ | refine Jv ?_ ?_ | refine Jy ?_ | refine aw_exit ?_ | refine aw_ret ?_ | refine pp_ret ?_ | refine pp_normal ?_
  all_goals first | exact pm_normal _ (renumD [0]) rfl | (exfalso; omega)
theorem ac_rrleft (a e : Int) (d : ByteArray) (ha : 0 ≤ a ∧ a ≤ 8 * d.size) (hd : d.size ≤ 1000000) : ACalls Tryz.prog 178 [.pointer (some ⟨0, 0, none⟩)] [some ⟨[.string d, .int .i64 a, .int .i64 e], false, 1⟩] (.int .i64 (8 * d.size - a)) [none] := by
  refine acalls_law Tryz.func178 rfl rfl rfl ?_
  repeat' first | intro h1 | refine st ?_ | refine stm ?_ | refine Ja ?_ | refine Jb ?_ | refine Jc ?_ | refine Jd ?_ | refine Je ?_ | refine Jf ?_ | refine Jg ?_ | refine Jh ?_ ?_ | refine Ji ?_ ?_ | refine Jj ?_ ?_ | refine run_nil ?_ | refine sd ?_ | refine sdl ?_ | refine sdm (n := 1) ?_ | refine sdm ?_ | refine sdb ?_ | refine Jk ?_ | refine Jl ?_ | refine Jm ?_ | refine Jn ?_ ?_ | refine Jo ?_ ?_ | refine Jp ?_ ?_ | refine rund_nil ?_ | refine Jz ?_ | refine Jw ?_ | refine J0 (id := 1) [0,1,3,7,15,31,0,64,192,448,1023,2047] 12 ?_ | refine aw_block ?_ | refine Jq ?_ | refine Jr ?_ | refine Js ?_ | refine Jt ?_ | refine Ju ?_ ?_ | refine Jv ?_ ?_ | refine Jy ?_ | refine aw_exit ?_ | refine aw_ret ?_ | refine pp_ret ?_ | refine pp_normal ?_
  all_goals first | rfl | (exfalso; omega)
theorem ac_rrnew (d : ByteArray) (hd : d.size ≤ 65536) : ACalls Tryz.prog 134 [.string d] [] (.pointer (some ⟨0, 0, none⟩)) [some ⟨[.string d, .int .i64 0, .int .i64 0], true, 1⟩] := by
  refine acalls_of_aw Tryz.func134 rfl rfl ?_
  repeat' first | intro h1 | refine st ?_ | refine stm ?_ | refine Ja ?_ | refine Jb ?_ | refine Jc ?_ | refine Jd ?_ | refine Je ?_ | refine Jf ?_ | refine Jg ?_ | refine Jh ?_ ?_ | refine Ji ?_ ?_ | refine Jj ?_ ?_ | refine run_nil ?_ | refine Jz ?_ | refine Jw ?_ | refine aw_block ?_ | refine Jq ?_ | refine Jr ?_ | refine Js ?_ | refine Jt ?_ | refine Ju ?_ ?_ | refine Jv ?_ ?_ | refine Jy ?_ | refine aw_exit ?_ | refine aw_ret ?_ | refine pp_ret ?_ | refine pp_normal ?_
  all_goals first | exact pm_ret _ (renumD [0]) rfl | (exfalso; omega)
structure Hg where
  j : Nat
  v : Int
  k : Int
set_option maxHeartbeats 1000000 in
theorem ac_rrget0 (w a : Nat) (d : ByteArray) (hw : w ≤ 63) (ha : a + w ≤ 8 * d.size) (hd : d.size ≤ 1000000) : ACalls Tryz.prog 176 [.pointer (some ⟨0, 0, none⟩), .int .i64 w] [some ⟨[.string d, .int .i64 (a : Int), .int .i64 0], true, 1⟩] (.int .i64 (rdN d a w)) [some ⟨[.string d, .int .i64 ((a + w : Nat) : Int), .int .i64 0], true, 1⟩] := by
  have HL := ac_rrleft a 0 d (by omega) hd
  refine acalls_of_aw Tryz.func176 rfl rfl ?_
  repeat' first | intro h1 | refine st ?_ | refine stRW [0] HL ?_ | refine stm ?_ | refine Ja ?_ | refine Jb ?_ | refine Jc ?_ | refine Jd ?_ | refine Je ?_ | refine Jf ?_ | refine Jg ?_ | refine Jh ?_ ?_ | refine Ji ?_ ?_ | refine Jj ?_ ?_ | refine run_nil ?_ | refine sd ?_ | refine sdl ?_ | refine sdm (n := 1) ?_ | refine sdm ?_ | refine sdb ?_ | refine Jk ?_ | refine Jl ?_ | refine Jm ?_ | refine Jn ?_ ?_ | refine Jo ?_ ?_ | refine Jp ?_ ?_ | refine rund_nil ?_ | refine Jz ?_ | refine Jw ?_ | refine J0 (id := 10) [0,1,0,4,12,28,0,64,192,448,960,2044,4092,0,8192,24576,57344,122880,253952,524284,1048572,2097151,4194303] 23 ?_ | refine aw_block ?_ | refine Jq ?_ | refine Jr ?_ | refine Js ?_ | refine Jt ?_ | refine Ju ?_ ?_ | refine Jv ?_ ?_ | refine Jy ?_ | refine aw_exit ?_ | refine aw_ret ?_ | refine pp_ret ?_ | refine pp_normal ?_
  refine aw_loopg
    (S := fun y : Hg => [(0, .pointer (some ⟨0, 0, none⟩)), (1, .int .i64 w), (5, .int .i64 y.v), (6, .int .i64 y.j)])
    (B := fun y : Hg => [some ⟨[.string d, .int .i64 y.k, .int .i64 0], true, 1⟩])
    (R := fun y : Hg => y.j ≤ w ∧ y.v = rdN d a y.j ∧ y.k = ((a + y.j : Nat) : Int))
    (μ := fun y : Hg => w - y.j) ⟨0, 0, a⟩ (fitsD [0]) ⟨Nat.zero_le _, rfl, rfl⟩ ?_
  rintro ⟨j, v, k⟩ ⟨g1, g2, g3⟩
  dsimp only at *
  have hb := rdN_bd d a j
  by_cases hj : j < w
  · have hp : (2 : Int) ^ j ≤ 4611686018427387904 := by
      have h1 : (2 : Nat) ^ j ≤ 2 ^ 62 := Nat.pow_le_pow_right (by omega) (by omega)
      have h3 : ((2 ^ j : Nat) : Int) = (2 : Int) ^ j := by push_cast; rfl
      omega
    have e1 : min (7 - k % 8).toNat IntKind.i64.bits = 7 - (a + j) % 8 := by show min (7 - k % 8).toNat 64 = _; omega
    have e2 : (k / 8).toNat = (a + j) / 8 := by omega
    have e3 := bv_and1 .i64 (.inr rfl) (((byteAt d (k / 8).toNat).toNat : Int) / 2 ^ (min (7 - k % 8).toNat IntKind.i64.bits))
    have e4 : IntKind.i64.wrap (v * 2 ^ (min (Int.toNat 1) IntKind.i64.bits)) = v * 2 := by
      rw [show (2 : Int) ^ (min (Int.toNat 1) IntKind.i64.bits) = 2 from by decide]
      exact wrap_id (by simp [IntKind.min, IntKind.signed, IntKind.bits]; omega) (by simp [IntKind.max, IntKind.signed, IntKind.bits]; omega)
    have e5 := or_bit .i64 (.inr rfl) (A := v * 2) (b := bitD d (a + j)) (by omega) (by omega) (bitD_bd _ _)
    repeat' first | intro h1 | refine st (h := ok_conv_u8 rfl (by decide)) ?_ | refine sd (h := ok_conv_u8 rfl (by decide)) ?_ | refine sdl (h := ok_conv_u8 rfl (by decide)) ?_ | refine st ?_ | refine stm ?_ | refine Ja ?_ | refine Jb ?_ | refine Jc ?_ | refine Jd ?_ | refine Je ?_ | refine Jf ?_ | refine Jg ?_ | refine Jh ?_ ?_ | refine Ji ?_ ?_ | refine Jj ?_ ?_ | refine run_nil ?_ | refine sd ?_ | refine sdl ?_ | refine sdm (n := 1) ?_ | refine sdm ?_ | refine sdb ?_ | refine Jk ?_ | refine Jl ?_ | refine Jm ?_ | refine Jn ?_ ?_ | refine Jo ?_ ?_ | refine Jp ?_ ?_ | refine rund_nil ?_ | refine Jz ?_ | refine Jw ?_ | refine J0 (id := 10) [0,1,0,4,12,28,0,64,192,448,960,2044,4092,0,8192,24576,57344,122880,253952,524284,1048572,2097151,4194303] 23 ?_ | refine aw_block ?_ | refine Jq ?_ | refine Jr ?_ | refine Js ?_ | refine Jt ?_ | refine Ju ?_ ?_ | refine Jv ?_ ?_ | refine Jy ?_ | refine aw_exit ?_ | refine aw_ret ?_ | refine pp_ret ?_ | refine pp_normal ?_
    refine Exists.intro ⟨j + 1, _, _⟩ ⟨fitsD [0], ⟨hj, ?_, by dsimp only; omega⟩, by dsimp only; omega⟩
    dsimp only
    rw [rdN, ← g2, ← e5]
    refine Eq.trans (b := bitv .or .i64 (IntKind.i64.wrap (v * 2 ^ (min (Int.toNat 1) IntKind.i64.bits))) (bitv .and .i64 (((byteAt d (k / 8).toNat).toNat : Int) / 2 ^ (min (7 - k % 8).toNat IntKind.i64.bits)) 1)) rfl ?_
    rw [e4, e3, e1, e2, bitD]
  · obtain rfl : j = w := by omega
    repeat' first | intro h1 | refine st ?_ | refine stm ?_ | refine Ja ?_ | refine Jb ?_ | refine Jc ?_ | refine Jd ?_ | refine Je ?_ | refine Jf ?_ | refine Jg ?_ | refine Jh ?_ ?_ | refine Ji ?_ ?_ | refine Jj ?_ ?_ | refine run_nil ?_ | refine sd ?_ | refine sdl ?_ | refine sdm (n := 1) ?_ | refine sdm ?_ | refine sdb ?_ | refine Jk ?_ | refine Jl ?_ | refine Jm ?_ | refine Jn ?_ ?_ | refine Jo ?_ ?_ | refine Jp ?_ ?_ | refine rund_nil ?_ | refine Jz ?_ | refine Jw ?_ | refine J0 (id := 10) [0,1,0,4,12,28,0,64,192,448,960,2044,4092,0,8192,24576,57344,122880,253952,524284,1048572,2097151,4194303] 23 ?_ | refine aw_block ?_ | refine Jq ?_ | refine Jr ?_ | refine Js ?_ | refine Jt ?_ | refine Ju ?_ ?_ | refine Jv ?_ ?_ | refine Jy ?_ | refine aw_exit ?_ | refine aw_ret ?_ | refine pp_ret ?_ | refine pp_normal ?_
    subst g2 g3
    exact pm_ret _ (renumD [0]) rfl
theorem ac_rrget (w e e' v : Int) (a a' : Nat) (d d2 d2' : ByteArray) (a2 a2' : Int) (hst : fieldR d a e true w = (v, a', e')) (hr : RR d a e d2 a2) (hr' : RR d a' e' d2' a2') (ha : a ≤ 8 * d.size) (hd : d.size ≤ 1000000) (hw : e = 0 → 0 ≤ w ∧ w ≤ 63) : ACalls Tryz.prog 176 [.pointer (some ⟨0, 0, none⟩), .int .i64 w] [some ⟨[.string d2, .int .i64 a2, .int .i64 e], true, 1⟩] (.int .i64 v) [some ⟨[.string d2', .int .i64 a2', .int .i64 e'], true, 1⟩] := by
  unfold fieldR at hst
  by_cases he : e = 0
  · subst he
    rw [if_neg (by simp), if_neg (by simp)] at hst
    have hw := hw rfl
    obtain ⟨rfl, rfl⟩ := hr.1 rfl
    have HL := ac_rrleft a 0 d2 (by omega) hd
    by_cases hs : (8 * d2.size : Int) - a < w
    · rw [if_pos hs] at hst
      simp only [Prod.mk.injEq] at hst
      obtain ⟨rfl, rfl, rfl⟩ := hst
      obtain ⟨rfl, rfl⟩ := hr'.2 (by decide)
      have HX := ac_rrfail a 0 9 d2
      refine acalls_of_aw Tryz.func176 rfl rfl ?_
      repeat' first | intro h1 | refine st ?_ | refine stRW [0] HL ?_ | refine stMW [0] HX ?_ | refine stm ?_ | refine Ja ?_ | refine Jb ?_ | refine Jc ?_ | refine Jd ?_ | refine Je ?_ | refine Jf ?_ | refine Jg ?_ | refine Jh ?_ ?_ | refine Ji ?_ ?_ | refine Jj ?_ ?_ | refine run_nil ?_ | refine sd ?_ | refine sdl ?_ | refine sdm (n := 1) ?_ | refine sdm ?_ | refine sdb ?_ | refine Jk ?_ | refine Jl ?_ | refine Jm ?_ | refine Jn ?_ ?_ | refine Jo ?_ ?_ | refine Jp ?_ ?_ | refine rund_nil ?_ | refine Jz ?_ | refine Jw ?_ | refine J0 (id := 10) [0,1,0,4,12,28,0,64,192,448,960,2044,4092,0,8192,24576,57344,122880,253952,524284,1048572,2097151,4194303] 23 ?_ | refine aw_block ?_ | refine Jq ?_ | refine Jr ?_ | refine Js ?_ | refine Jt ?_ | refine Ju ?_ ?_ | refine Jv ?_ ?_ | refine Jy ?_ | refine aw_exit ?_ | refine aw_ret ?_ | refine pp_ret ?_ | refine pp_normal ?_
      all_goals first | exact pm_ret _ (renumD [0]) rfl | (exfalso; omega)
    · rw [if_neg hs] at hst
      simp only [Prod.mk.injEq] at hst
      obtain ⟨rfl, rfl, rfl⟩ := hst
      obtain ⟨rfl, rfl⟩ := hr'.1 rfl
      have := ac_rrget0 w.toNat a d2' (by omega) (by omega) hd
      rwa [show ((w.toNat : Nat) : Int) = w by omega] at this
  · rw [if_pos he] at hst
    simp only [Prod.mk.injEq] at hst
    obtain ⟨rfl, rfl, rfl⟩ := hst
    obtain ⟨rfl, rfl⟩ := hr.2 he
    obtain ⟨rfl, rfl⟩ := hr'.2 he
    refine acalls_of_aw Tryz.func176 rfl rfl ?_
    repeat' first | intro h1 | refine st ?_ | refine stm ?_ | refine Ja ?_ | refine Jb ?_ | refine Jc ?_ | refine Jd ?_ | refine Je ?_ | refine Jf ?_ | refine Jg ?_ | refine Jh ?_ ?_ | refine Ji ?_ ?_ | refine Jj ?_ ?_ | refine run_nil ?_ | refine sd ?_ | refine sdl ?_ | refine sdm (n := 1) ?_ | refine sdm ?_ | refine sdb ?_ | refine Jk ?_ | refine Jl ?_ | refine Jm ?_ | refine Jn ?_ ?_ | refine Jo ?_ ?_ | refine Jp ?_ ?_ | refine rund_nil ?_ | refine Jz ?_ | refine Jw ?_ | refine J0 (id := 10) [0,1,0,4,12,28,0,64,192,448,960,2044,4092,0,8192,24576,57344,122880,253952,524284,1048572,2097151,4194303] 23 ?_ | refine aw_block ?_ | refine Jq ?_ | refine Jr ?_ | refine Js ?_ | refine Jt ?_ | refine Ju ?_ ?_ | refine Jv ?_ ?_ | refine Jy ?_ | refine aw_exit ?_ | refine aw_ret ?_ | refine pp_ret ?_ | refine pp_normal ?_
    all_goals first | exact pm_ret _ (renumD [0]) rfl | (exfalso; omega)
theorem ac_rrgetE (w e : Int) (he : e ≠ 0) : ACalls Tryz.prog 176 [.pointer (some ⟨0, 0, none⟩), .int .i64 w] [some ⟨[.string ⟨#[]⟩, .int .i64 0, .int .i64 e], true, 1⟩] (.int .i64 0) [some ⟨[.string ⟨#[]⟩, .int .i64 0, .int .i64 e], true, 1⟩] :=
  ac_rrget w e e 0 0 0 ⟨#[]⟩ ⟨#[]⟩ ⟨#[]⟩ 0 0 (by unfold fieldR; rw [if_pos he]) ⟨fun h => absurd h he, fun _ => ⟨rfl, rfl⟩⟩ ⟨fun h => absurd h he, fun _ => ⟨rfl, rfl⟩⟩ (Nat.zero_le _) (by decide) fun h => absurd h he
theorem ac_runsR (w e e' v : Int) (a a' : Nat) (d d2 d2' : ByteArray) (a2 a2' : Int) (hst : unsR d a e w = (v, a', e')) (hr : RR d a e d2 a2) (hr' : RR d a' e' d2' a2') (ha : a ≤ 8 * d.size) (hd : d.size ≤ 1000000) (hw : -9223372036854775808 ≤ w ∧ w ≤ 9223372036854775807) :
    ACalls Tryz.prog 137 [.pointer (some ⟨0, 0, none⟩), .int .i64 w] [some ⟨[.string d2, .int .i64 a2, .int .i64 e], true, 1⟩] (.int .i64 v) [some ⟨[.string d2', .int .i64 a2', .int .i64 e'], true, 1⟩] := by
  unfold unsR at hst
  by_cases hc : e = 0 ∧ ¬ (1 ≤ w ∧ w ≤ 63)
  · obtain ⟨rfl, hc⟩ := hc
    unfold fieldR at hst
    rw [if_neg (by simp), if_pos (decide_eq_false hc)] at hst
    simp only [Prod.mk.injEq] at hst
    obtain ⟨rfl, rfl, rfl⟩ := hst
    obtain ⟨rfl, rfl⟩ := hr.1 rfl
    obtain ⟨rfl, rfl⟩ := hr'.2 (by decide)
    have HX := ac_rrfail a 0 1 d2
    have HG := ac_rrgetE w 1 (by decide)
    refine acalls_of_aw Tryz.func137 rfl rfl ?_
    repeat' first | intro h1 | refine st ?_ | refine stMW [0] HX ?_ | refine stMW [0] HG ?_ | refine stm ?_ | refine Ja ?_ | refine Jb ?_ | refine Jc ?_ | refine Jd ?_ | refine Je ?_ | refine Jf ?_ | refine Jg ?_ | refine Jh ?_ ?_ | refine Ji ?_ ?_ | refine Jj ?_ ?_ | refine run_nil ?_ | refine Jz ?_ | refine Jw ?_ | refine aw_block ?_ | refine Jq ?_ | refine Jr ?_ | refine Js ?_ | refine Jt ?_ | refine Ju ?_ ?_ | refine Jv ?_ ?_ | refine Jy ?_ | refine aw_exit ?_ | refine aw_ret ?_ | refine pp_ret ?_ | refine pp_normal ?_
    all_goals first | exact pm_ret _ (renumD [0]) rfl | (exfalso; omega)
  · have HG := ac_rrget w e e' v a a' d d2 d2' a2 a2' (by
      rw [← hst]
      by_cases he : e = 0
      · rw [decide_eq_true (show 1 ≤ w ∧ w ≤ 63 by omega)]
      · unfold fieldR; rw [if_pos he, if_pos he]) hr hr' ha hd (by omega)
    by_cases he : e = 0
    · subst he
      refine acalls_of_aw Tryz.func137 rfl rfl ?_
      repeat' first | intro h1 | refine st ?_ | refine stMW [0] HG ?_ | refine stm ?_ | refine Ja ?_ | refine Jb ?_ | refine Jc ?_ | refine Jd ?_ | refine Je ?_ | refine Jf ?_ | refine Jg ?_ | refine Jh ?_ ?_ | refine Ji ?_ ?_ | refine Jj ?_ ?_ | refine run_nil ?_ | refine Jz ?_ | refine Jw ?_ | refine aw_block ?_ | refine Jq ?_ | refine Jr ?_ | refine Js ?_ | refine Jt ?_ | refine Ju ?_ ?_ | refine Jv ?_ ?_ | refine Jy ?_ | refine aw_exit ?_ | refine aw_ret ?_ | refine pp_ret ?_ | refine pp_normal ?_
      all_goals first | exact pm_ret _ (renumD [0]) rfl | (exfalso; omega)
    · refine acalls_of_aw Tryz.func137 rfl rfl ?_
      repeat' first | intro h1 | refine st ?_ | refine stMW [0] HG ?_ | refine stm ?_ | refine Ja ?_ | refine Jb ?_ | refine Jc ?_ | refine Jd ?_ | refine Je ?_ | refine Jf ?_ | refine Jg ?_ | refine Jh ?_ ?_ | refine Ji ?_ ?_ | refine Jj ?_ ?_ | refine run_nil ?_ | refine Jz ?_ | refine Jw ?_ | refine aw_block ?_ | refine Jq ?_ | refine Jr ?_ | refine Js ?_ | refine Jt ?_ | refine Ju ?_ ?_ | refine Jv ?_ ?_ | refine Jy ?_ | refine aw_exit ?_ | refine aw_ret ?_ | refine pp_ret ?_ | refine pp_normal ?_
      all_goals first | exact pm_ret _ (renumD [0]) rfl | (exfalso; omega)
theorem ac_rflgR (e e' : Int) (v : Bool) (a a' : Nat) (d d2 d2' : ByteArray) (a2 a2' : Int) (hst : flgR d a e = (v, a', e')) (hr : RR d a e d2 a2) (hr' : RR d a' e' d2' a2') (ha : a ≤ 8 * d.size) (hd : d.size ≤ 1000000) :
    ACalls Tryz.prog 135 [.pointer (some ⟨0, 0, none⟩)] [some ⟨[.string d2, .int .i64 a2, .int .i64 e], true, 1⟩] (.bool v) [some ⟨[.string d2', .int .i64 a2', .int .i64 e'], true, 1⟩] := by
  unfold flgR at hst
  obtain ⟨v1, a1, e1, hf⟩ : ∃ v a1 e1, fieldR d a e true 1 = (v, a1, e1) := ⟨_, _, _, rfl⟩
  rw [hf] at hst
  simp only [Prod.mk.injEq] at hst
  obtain ⟨rfl, rfl, rfl⟩ := hst
  have HG := ac_rrget 1 e e1 v1 a a1 d d2 d2' a2 a2' hf hr hr' ha hd (by omega)
  refine acalls_of_aw Tryz.func135 rfl rfl ?_
  repeat' first | intro h1 | refine st ?_ | refine stMW [0] HG ?_ | refine stm ?_ | refine Ja ?_ | refine Jb ?_ | refine Jc ?_ | refine Jd ?_ | refine Je ?_ | refine Jf ?_ | refine Jg ?_ | refine Jh ?_ ?_ | refine Ji ?_ ?_ | refine Jj ?_ ?_ | refine run_nil ?_ | refine Jz ?_ | refine Jw ?_ | refine aw_block ?_ | refine Jq ?_ | refine Jr ?_ | refine Js ?_ | refine Jt ?_ | refine Ju ?_ ?_ | refine Jv ?_ ?_ | refine Jy ?_ | refine aw_exit ?_ | refine aw_ret ?_ | refine pp_ret ?_ | refine pp_normal ?_
  all_goals first | exact pm_ret _ (renumD [0]) rfl | (exfalso; omega)
structure Yg where
  i : Nat
  Z : List Int
set_option maxHeartbeats 4000000 in
theorem ac_rtxtR (m e e' : Int) (t : ByteArray) (a a' : Nat) (d d2 d2' : ByteArray) (a2 a2' : Int) (hst : txtR d a e m = (t, a', e')) (hr : RR d a e d2 a2) (hr' : RR d a' e' d2' a2') (ha : a ≤ 8 * d.size) (hd : d.size ≤ 1000000) (hm : -9223372036854775808 ≤ m ∧ m ≤ 9223372036854775807) :
    ACalls Tryz.prog 136 [.pointer (some ⟨0, 0, none⟩), .int .i64 m] [some ⟨[.string d2, .int .i64 a2, .int .i64 e], true, 1⟩] (.string t) [some ⟨[.string d2', .int .i64 a2', .int .i64 e'], true, 1⟩] := by
  unfold txtR at hst
  have HW := ac_rwidth m hm
  obtain ⟨v, a1, e1, hf⟩ : ∃ v a1 e1, fieldR d a e (decide (1 ≤ m ∧ m ≤ 4095)) (wdth m) = (v, a1, e1) := ⟨_, _, _, rfl⟩
  rw [hf] at hst
  dsimp only at hst
  have hwd : 1 ≤ m → 1 ≤ wdth m ∧ wdth m ≤ 63 := fun h => wdth_bd m (by omega)
  have hv := fieldR_bd hf (by simp; omega)
  have hcs := fieldR_cases hf
  by_cases hc : e = 0 ∧ ¬ (1 ≤ m ∧ m ≤ 4095)
  · obtain ⟨rfl, hc⟩ := hc
    unfold fieldR at hf
    rw [if_neg (by simp), if_pos (decide_eq_false hc)] at hf
    simp only [Prod.mk.injEq] at hf
    obtain ⟨rfl, rfl, rfl⟩ := hf
    rw [if_pos (by decide)] at hst
    simp only [Prod.mk.injEq] at hst
    obtain ⟨rfl, rfl, rfl⟩ := hst
    obtain ⟨rfl, rfl⟩ := hr.1 rfl
    obtain ⟨rfl, rfl⟩ := hr'.2 (by decide)
    have HX := ac_rrfail a 0 1 d2
    have HG := ac_rrgetE (wdth m) 1 (by decide)
    refine acalls_of_aw Tryz.func136 rfl rfl ?_
    repeat' first | intro h1 | refine st ?_ | refine st_call (HW) ?_ | refine stMW [0] HX ?_ | refine stMW [0] HG ?_ | refine stm ?_ | refine Ja ?_ | refine Jb ?_ | refine Jc ?_ | refine Jd ?_ | refine Je ?_ | refine Jf ?_ | refine Jg ?_ | refine Jh ?_ ?_ | refine Ji ?_ ?_ | refine Jj ?_ ?_ | refine run_nil ?_ | refine Jz ?_ | refine Jw ?_ | refine aw_block ?_ | refine Jq ?_ | refine Jr ?_ | refine Js ?_ | refine Jt ?_ | refine Ju ?_ ?_ | refine Jv ?_ ?_ | refine Jy ?_ | refine aw_exit ?_ | refine aw_ret ?_ | refine pp_ret ?_ | refine pp_normal ?_
    all_goals first | exact pm_ret _ (renumD [0]) rfl | (exfalso; omega)
  · have hf' : fieldR d a e true (wdth m) = (v, a1, e1) := by
      rw [← hf]
      by_cases he : e = 0
      · rw [decide_eq_true (show 1 ≤ m ∧ m ≤ 4095 by omega)]
      · unfold fieldR; rw [if_pos he, if_pos he]
    by_cases he1 : e1 = 0
    · rw [if_neg (by simpa using he1)] at hst
      obtain ⟨c1, c2, c3, c4, c5, c6⟩ : e1 = 0 ∧ e = 0 ∧ decide (1 ≤ m ∧ m ≤ 4095) = true ∧ a1 = a + (wdth m).toNat ∧ v = rdN d a (wdth m).toNat ∧ wdth m ≤ 8 * d.size - a := by
        rcases hcs with h | h
        · exact absurd he1 h.1
        · exact h
      have c3 := of_decide_eq_true c3
      have hwd := hwd c3.1
      subst e1 e
      obtain ⟨rfl, rfl⟩ := hr.1 rfl
      have HG := ac_rrget (wdth m) 0 0 v a a1 d2 d2 d2 a a1 hf' ⟨fun _ => ⟨rfl, rfl⟩, fun h => absurd rfl h⟩ ⟨fun _ => ⟨rfl, rfl⟩, fun h => absurd rfl h⟩ ha hd (by omega)
      have HL := ac_rrleft a1 0 d2 (by omega) hd
      by_cases h2 : m < v
      · rw [if_pos h2] at hst
        simp only [Prod.mk.injEq] at hst
        obtain ⟨rfl, rfl, rfl⟩ := hst
        obtain ⟨rfl, rfl⟩ := hr'.2 (by decide)
        have HX := ac_rrfail a1 0 2 d2
        refine acalls_of_aw Tryz.func136 rfl rfl ?_
        repeat' first | intro h1 | refine st ?_ | refine st_call (HW) ?_ | refine stMW [0] HG ?_ | refine stMW [0] HX ?_ | refine stm ?_ | refine Ja ?_ | refine Jb ?_ | refine Jc ?_ | refine Jd ?_ | refine Je ?_ | refine Jf ?_ | refine Jg ?_ | refine Jh ?_ ?_ | refine Ji ?_ ?_ | refine Jj ?_ ?_ | refine run_nil ?_ | refine Jz ?_ | refine Jw ?_ | refine aw_block ?_ | refine Jq ?_ | refine Jr ?_ | refine Js ?_ | refine Jt ?_ | refine Ju ?_ ?_ | refine Jv ?_ ?_ | refine Jy ?_ | refine aw_exit ?_ | refine aw_ret ?_ | refine pp_ret ?_ | refine pp_normal ?_
        all_goals first | exact pm_ret _ (renumD [0]) rfl | (exfalso; omega)
      · rw [if_neg h2] at hst
        by_cases h3 : (8 * d2.size : Int) - a1 < 8 * v
        · rw [if_pos h3] at hst
          simp only [Prod.mk.injEq] at hst
          obtain ⟨rfl, rfl, rfl⟩ := hst
          obtain ⟨rfl, rfl⟩ := hr'.2 (by decide)
          have HX := ac_rrfail a1 0 9 d2
          refine acalls_of_aw Tryz.func136 rfl rfl ?_
          repeat' first | intro h1 | refine st ?_ | refine st_call (HW) ?_ | refine stMW [0] HG ?_ | refine stRW [0] HL ?_ | refine stMW [0] HX ?_ | refine stm ?_ | refine Ja ?_ | refine Jb ?_ | refine Jc ?_ | refine Jd ?_ | refine Je ?_ | refine Jf ?_ | refine Jg ?_ | refine Jh ?_ ?_ | refine Ji ?_ ?_ | refine Jj ?_ ?_ | refine run_nil ?_ | refine Jz ?_ | refine Jw ?_ | refine aw_block ?_ | refine Jq ?_ | refine Jr ?_ | refine Js ?_ | refine Jt ?_ | refine Ju ?_ ?_ | refine Jv ?_ ?_ | refine Jy ?_ | refine aw_exit ?_ | refine aw_ret ?_ | refine pp_ret ?_ | refine pp_normal ?_
          all_goals first | exact pm_ret _ (renumD [0]) rfl | (exfalso; omega)
        · rw [if_neg h3] at hst
          simp only [Prod.mk.injEq] at hst
          obtain ⟨ht, ha', rfl⟩ := hst
          obtain ⟨rfl, rfl⟩ := hr'.1 rfl
          obtain ⟨N, hN⟩ : ∃ N, v.toNat = N := ⟨_, rfl⟩
          rw [hN] at ht ha'
          clear c5 hf hf' hcs
          refine acalls_of_aw Tryz.func136 rfl rfl ?_
          repeat' first | intro h1 | refine st ?_ | refine st_call (HW) ?_ | refine stMW [0] HG ?_ | refine stRW [0] HL ?_ | refine stm ?_ | refine Ja ?_ | refine Jb ?_ | refine Jc ?_ | refine Jd ?_ | refine Je ?_ | refine Jf ?_ | refine Jg ?_ | refine Jh ?_ ?_ | refine Ji ?_ ?_ | refine Jj ?_ ?_ | refine run_nil ?_ | refine Jz ?_ | refine Jw ?_ | refine aw_block ?_ | refine Jq ?_ | refine Jr ?_ | refine Js ?_ | refine Jt ?_ | refine Ju ?_ ?_ | refine Jv ?_ ?_ | refine Jy ?_ | refine aw_exit ?_ | refine aw_ret ?_ | refine pp_ret ?_ | refine pp_normal ?_
          rw [hN]
          refine aw_loopg
            (S := fun y : Yg => [(0, .pointer (some ⟨0, 0, none⟩)), (5, .int .i64 v), (6, .slice (some ⟨1, 0, none⟩) N N), (7, .int .i64 y.i)])
            (B := fun y : Yg => [some ⟨[.string d2', .int .i64 ((a1 + 8 * y.i : Nat) : Int), .int .i64 0], true, 1⟩, some ⟨List.map (Value.int .u8) y.Z, true, 1⟩])
            (R := fun y : Yg => y.i ≤ N ∧ y.Z = rdB d2' a1 y.i ++ List.replicate (N - y.i) 0)
            (μ := fun y : Yg => N - y.i) ⟨0, List.replicate N 0⟩ (fitsD [0, 1] (h4 := .blk rfl (WkL.refl _) rfl (.blk rfl (.ofEq (by refine Eq.trans ?_ (renL_map (fun _ => rfl) _).symm; rw [List.map_replicate])) rfl .nil))) ⟨Nat.zero_le _, rfl⟩ ?_
          clear HG HW HL
          rintro ⟨i, Z⟩ ⟨g1, g2⟩
          dsimp only at *
          have hZl : Z.length = N := by rw [g2, List.length_append, rdB_len, List.length_replicate]; omega
          by_cases hi : i < N
          · have HG := ac_rrget0 8 (a1 + 8 * i) d2' (by omega) (by omega) hd
            have hb := rdN_bd d2' (a1 + 8 * i) 8
            generalize hc : rdN d2' (a1 + 8 * i) 8 = c at HG hb
            repeat' first | intro h1 | refine st (h := ok_conv_in rfl (show IntKind.u8.min ≤ c by simp [IntKind.min, IntKind.signed]; omega) (show c ≤ IntKind.u8.max by simp [IntKind.max, IntKind.signed, IntKind.bits]; omega)) ?_ | refine st ?_ | refine stMW [0] HG ?_ | refine stm ?_ | refine Ja ?_ | refine Jb ?_ | refine Jc ?_ | refine Jd ?_ | refine Je ?_ | refine Jf ?_ | refine Jg ?_ | refine Jh ?_ ?_ | refine Ji ?_ ?_ | refine Jj ?_ ?_ | refine run_nil ?_ | refine Jz ?_ | refine Jw ?_ | refine aw_block ?_ | refine Jq ?_ | refine Jr ?_ | refine Js ?_ | refine Jt ?_ | refine Ju ?_ ?_ | refine Jv ?_ ?_ | refine Jy ?_ | refine aw_exit ?_ | refine aw_ret ?_ | refine pp_ret ?_ | refine pp_normal ?_
            refine Exists.intro ⟨i + 1, Z.set i c⟩ ⟨fitsD [0, 1], ⟨hi, ?_⟩, by dsimp only; omega⟩
            dsimp only
            rw [g2, rdB, hc, List.set_append_right _ _ (by rw [rdB_len]; exact Nat.le_refl _), rdB_len, Nat.sub_self, show N - i = (N - (i + 1)) + 1 by omega, List.replicate_succ, List.append_assoc]
            rfl
          · obtain rfl : i = N := by omega
            have hZ : Z = rdB d2' a1 i := by rw [g2, Nat.sub_self]; simp
            have hbu := bytes_u8 Z (hZ ▸ rdB_rng d2' a1 i)
            subst t a'
            rw [← hZ]
            repeat' first | intro h1 | refine st (h := ok_bytes_str (l := Z.map b8) rfl rfl (by simp; omega) ((take_full (by simp; omega)).trans hbu)) ?_ | refine st ?_ | refine stm ?_ | refine Ja ?_ | refine Jb ?_ | refine Jc ?_ | refine Jd ?_ | refine Je ?_ | refine Jf ?_ | refine Jg ?_ | refine Jh ?_ ?_ | refine Ji ?_ ?_ | refine Jj ?_ ?_ | refine run_nil ?_ | refine Jz ?_ | refine Jw ?_ | refine aw_block ?_ | refine Jq ?_ | refine Jr ?_ | refine Js ?_ | refine Jt ?_ | refine Ju ?_ ?_ | refine Jv ?_ ?_ | refine Jy ?_ | refine aw_exit ?_ | refine aw_ret ?_ | refine pp_ret ?_ | refine pp_normal ?_
            exact pm_ret _ (renumD [0]) rfl
    · rw [if_pos he1] at hst
      simp only [Prod.mk.injEq] at hst
      obtain ⟨rfl, rfl, rfl⟩ := hst
      have HG := ac_rrget (wdth m) e e1 v a a1 d d2 d2' a2 a2' hf' hr hr' ha hd (by omega)
      by_cases he : e = 0
      · subst he
        refine acalls_of_aw Tryz.func136 rfl rfl ?_
        repeat' first | intro h1 | refine st ?_ | refine st_call (HW) ?_ | refine stMW [0] HG ?_ | refine stm ?_ | refine Ja ?_ | refine Jb ?_ | refine Jc ?_ | refine Jd ?_ | refine Je ?_ | refine Jf ?_ | refine Jg ?_ | refine Jh ?_ ?_ | refine Ji ?_ ?_ | refine Jj ?_ ?_ | refine run_nil ?_ | refine Jz ?_ | refine Jw ?_ | refine aw_block ?_ | refine Jq ?_ | refine Jr ?_ | refine Js ?_ | refine Jt ?_ | refine Ju ?_ ?_ | refine Jv ?_ ?_ | refine Jy ?_ | refine aw_exit ?_ | refine aw_ret ?_ | refine pp_ret ?_ | refine pp_normal ?_
        all_goals first | exact pm_ret _ (renumD [0]) rfl | (exfalso; omega)
      · refine acalls_of_aw Tryz.func136 rfl rfl ?_
        repeat' first | intro h1 | refine st ?_ | refine st_call (HW) ?_ | refine stMW [0] HG ?_ | refine stm ?_ | refine Ja ?_ | refine Jb ?_ | refine Jc ?_ | refine Jd ?_ | refine Je ?_ | refine Jf ?_ | refine Jg ?_ | refine Jh ?_ ?_ | refine Ji ?_ ?_ | refine Jj ?_ ?_ | refine run_nil ?_ | refine Jz ?_ | refine Jw ?_ | refine aw_block ?_ | refine Jq ?_ | refine Jr ?_ | refine Js ?_ | refine Jt ?_ | refine Ju ?_ ?_ | refine Jv ?_ ?_ | refine Jy ?_ | refine aw_exit ?_ | refine aw_ret ?_ | refine pp_ret ?_ | refine pp_normal ?_
        all_goals first | exact pm_ret _ (renumD [0]) rfl | (exfalso; omega)
structure Zg where
  i : Nat
theorem rdN_zero (d : ByteArray) (a : Nat) : ∀ w, (∀ j, j < w → bitD d (a + j) = 0) → rdN d a w = 0
  | 0, _ => rfl
  | w + 1, h => by rw [rdN, rdN_zero d a w fun j hj => h j (by omega), h w (by omega)]; rfl
theorem rdN_one (d : ByteArray) (a j : Nat) (hj : bitD d (a + j) ≠ 0) : ∀ w, j < w → rdN d a w ≠ 0
  | 0, h => by omega
  | w + 1, h => by
    have h1 := rdN_bd d a w
    have h2 := bitD_bd d (a + w)
    rw [rdN]
    rcases Nat.lt_or_ge j w with hw | hw
    · have := rdN_one d a j hj w hw
      omega
    · obtain rfl : j = w := by omega
      omega
end Go.Proofs.YtdbcbclapipgdaaGreatDoor
